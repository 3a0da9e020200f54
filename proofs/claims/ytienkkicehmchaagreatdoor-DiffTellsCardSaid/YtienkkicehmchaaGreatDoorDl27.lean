/- Texts of this claim, merged by a program of this claim: KBlank, KRdif. -/
import Derived.Test.YtienkkicehmchaaGreatDoorDl5
namespace Go.Proofs.YtienkkicehmchaaGreatDoor
set_option linter.unusedVariables false
set_option linter.unusedSimpArgs false
section
open Go.RowKit
set_option maxRecDepth 100000
def z86_0:LC:=.seq (.stm [0] [sd 1 (.build [.int .i64 0,.int .i32 0,.int .u8 0,.int .u8 0] []),sd 2 (.box 1),kM 0 2]) .ret
def z86:LC:=.seq (.stm [] [kM 0 (.c .nilptr)]) z86_0
theorem jmU:jad Tryz.prog eqs0 204 z86 [.t 0] 3=true:=by kernel_rfl
def z87_0:LC:=.seq (.stm [0] [sd 1 (.call 204 []),sd 2 (.build [.nilptr,.int .i64 0,.bool false,.int .u8 0,.bool false,.nils,.nils,.bool false] [(0,1,1)]),sd 3 (.box 2),kM 0 3]) .ret
def z87:LC:=.seq (.stm [] [kM 0 (.c .nilptr)]) z87_0
theorem jjz:jad Tryz.prog eqs0 190 z87 [.t 0] 4=true:=by kernel_rfl
def z88_8:LC:=.seq (.stm [0,2,14] [kM 16 14,kM 2 16]) (.stm [0,14] [kM 17 0,kM 18 2,kM 19 2,sd 20 (.ari .rem false 19 (ki 8)),sd 21 (.eq 20 (ki 0)),kM 22 21,.g 22 true [kM 23 2,sd 24 (.cmp .gtr 23 (ki 0))] 25 24 kf,sd 26 (.nilck 17),kF 27 26 23,sd 28 (.ixA 80 1 27 18),sn (.store 1 28 25)])
def z88_6:LC:=.seq (.block 1 z88_8) (.stm [0,14] [sd 29 (.add 14 (ki 1)),kM 14 29])
def z88_3:LC:=.seq (.stm [0,14,15] [sd 15 (.lt 14 (ki 80))]) (.seq (.cond 15 .skip (.exit 0)) z88_6)
def z88_2:LC:=.loop z88_3
def z88_0:LC:=.seq (.stm [0,14] [kM 14 (ki 0)]) (.block 0 z88_2)
def z88:LC:=.seq (.stm [0] [kM 3 0,kM 4 0,kM 5 0,sd 6 (.nilck 5),kF 7 6 8,kL 8 1 7,sd 9 (.sub 8 (ki 1)),sd 10 (.nilck 3),kF 11 10 17,sn (.store 1 11 (ki 0)),sd 12 (.nilck 4),kF 13 12 18,sn (.store 1 13 9)]) z88_0
theorem jdO:jad Tryz.prog eqs0 191 z88 [] 30=true:=by kernel_rfl
def z89_4:LC:=.seq (.stm [4,5] [kM 19 7,kM 4 (.c .nilptr),kM 5 19]) .ret
def z89_2:LC:=.seq (.stm [0,1,6,7,18] [kM 17 7,sd 18 (.cmp .neq 17 (ki 0))]) (.cond 18 z89_4 .skip)
def z89_7:LC:=.seq (.stm [10] [kM 34 10,sd 35 (.call 191 [34])]) (.seq (.stm [4,5] [kM 36 10,kM 4 36,kM 5 (ki 0)]) .ret)
def z89_6:LC:=.seq (.reg [10] [kR 0 26 (.mov 0),kR 1 27 (.mov 1),kR 2 28 (.load true 3 6),kR 3 29 (.load true 3 8),kR 4 30 (.build [.int .i64 0,.int .i64 0,.nils,.int .i64 0,.int .i64 0,.nils] [(0,3,28),(3,3,29)]),⟨5,some 31,none,.call 190 [],true,true⟩,kR 6 32 (.build ([.int .i64 0,.int .i64 0,.int .u32 0,.int .u32 0,.int .u8 0,.int .u16 0,.bool false,.int .i64 0,.int .i64 0,.int .i64 0,.int .i64 0,.nils,.int .i64 0,.int .i64 0,.nils,.int .i64 0,.bool false,.int .i64 0,.int .i64 0,.bool false,.bool false,.bool false,.int .u8 0]++List.replicate 80 (.bool false)++[.int .i64 0,.int .i64 0,.int .u32 0,.int .u32 0,.int .u8 0,.int .u16 0,.bool false,.str (bs []),.nils,.int .i32 0,.nilptr]) [(7,1,26),(8,1,27),(9,6,30),(19,1,kt),(113,1,31)]),kR 7 33 (.box 32),kR 8 10 (.mov 33)]) z89_7
def z89_5:LC:=.seq (.stm [0,1,6,8] [kM 21 0,kM 22 1,sd 23 (.call 189 [21,22]),kM 20 23,sd 24 (.ext 20 0),sd 25 (.ext 20 1),sd 8 (.zero [.int .i64 0,.int .i64 0,.nils]),sn (.store 3 8 24),kM 9 25]) z89_6
def z89_0:LC:=.seq (.stm [0,1,6,7] [kM 12 0,kM 13 1,sd 14 (.call 189 [12,13]),kM 11 14,sd 15 (.ext 11 0),sd 16 (.ext 11 1),sd 6 (.zero [.int .i64 0,.int .i64 0,.nils]),sn (.store 3 6 15),kM 7 16]) (.seq z89_2 z89_5)
def z89:LC:=.seq (.stm [0,1] [kM 4 (.c .nilptr),kM 5 (ki 0)]) z89_0
theorem jkC:jad Tryz.prog eqs0 163 z89 [.t 4,.t 5] 37=true:=by kernel_rfl
def z90_0:LC:=.seq (.reg [2] [kR 0 3 (.mov 0),kR 1 4 (.mov 0),kR 2 5 (.nilck 4),kR 3 6 (.fa 5 15),kR 4 7 (.ld 1 6),kR 5 8 (.nilck 3),kR 6 9 (.fa 8 9),kR 7 10 (.ixA 2 3 9 7),kR 8 11 (.load true 3 10),⟨9,none,none,.store 3 2 11,false,true⟩]) .ret
def z90:LC:=.seq (.stm [0,2] [sd 2 (.zero [.int .i64 0,.int .i64 0,.nils])]) z90_0
theorem jej:jad Tryz.prog eqs0 193 z90 [.c 2 true 3] 12=true:=by kernel_rfl
def z91_3:LC:=.seq (.stm [2] [sd 7 (.build [.int .i64 0,.int .i64 0,.nils,.int .i64 0,.int .i64 0,.bool false,.int .u8 0,.str (bs []),.nils] []),sn (.store 9 2 7)]) .ret
def z91_1:LC:=.seq (.stm [0,2,6] [kM 5 0,sd 6 (.cmpN 0 false 5)]) (.cond 6 z91_3 .skip)
def z91_5:LC:=.seq (.reg [2] [kR 0 19 (.mov 0),kR 1 20 (.nilck 19),kR 2 21 (.fa 20 7),kR 3 22 (.ld 1 21),kR 4 23 (.mov 0),kR 5 24 (.nilck 23),kR 6 25 (.fa 24 8),kR 7 26 (.ld 1 25),kR 8 27 (.mov 3),kR 9 28 (.mov 0),kR 10 29 (.nilck 28),kR 11 30 (.fa 29 0),kR 12 31 (.fa 30 0),kR 13 32 (.ld 1 31),kR 14 33 (.mov 0),kR 15 34 (.nilck 33),kR 16 35 (.fa 34 0),kR 17 36 (.fa 35 1),kR 18 37 (.ld 1 36),kR 19 38 (.mov 0),kR 20 39 (.nilck 38),kR 21 40 (.fa 39 21),kR 22 41 (.ld 1 40),kR 23 42 (.mov 0),kR 24 43 (.nilck 42),kR 25 44 (.fa 43 22),kR 26 45 (.ld 1 44),kR 27 46 (.mov 0),kR 28 47 (.nilck 46),kR 29 48 (.fa 47 110),kR 30 49 (.ld 1 48),kR 31 50 (.mov 4),kR 32 51 (.build [.int .i64 0,.int .i64 0,.nils,.int .i64 0,.int .i64 0,.bool false,.int .u8 0,.str (bs []),.nils] [(0,1,22),(1,1,26),(2,1,27),(3,1,32),(4,1,37),(5,1,41),(6,1,45),(7,1,49),(8,1,50)]),⟨33,none,none,.store 9 2 51,false,true⟩]) .ret
def z91_4:LC:=.seq (.reg [0,2,3,4] [kR 0 9 (.mov 0),kR 3 12 (.mov 0),kR 4 13 (.nilck 12),kR 5 14 (.fa 13 111),kR 6 15 (.ld 1 14),⟨1,some 10,none,.call 193 [9],true,true⟩,kR 2 11 (.field 10 2 1 false),⟨7,some 16,none,.call 192 [11,15],false,true⟩,kR 8 8 (.mov 16),kR 9 17 (.ext 8 0),kR 10 18 (.ext 8 1),kR 11 3 (.mov 17),kR 12 4 (.mov 18)]) z91_5
def z91_0:LC:=.seq z91_1 z91_4
def z91:LC:=.seq (.stm [0,2] [sd 2 (.zero [.int .i64 0,.int .i64 0,.nils,.int .i64 0,.int .i64 0,.bool false,.int .u8 0,.str (bs []),.nils])]) z91_0
theorem jdn:jad Tryz.prog eqs0 164 z91 [.c 2 true 9] 52=true:=by kernel_rfl
def z92_4:LC:=.seq (.stm [4,5] [sd 16 (.build [.int .i64 0,.int .i64 0,.nils,.int .i64 0,.int .i64 0,.bool false,.int .u8 0,.str (bs []),.nils] []),kM 17 7,sn (.store 9 4 16),kM 5 17]) .ret
def z92_2:LC:=.seq (.stm [4,6,7,15] [kM 14 7,sd 15 (.cmp .neq 14 (ki 0))]) (.cond 15 z92_4 .skip)
def z92_5:LC:=.seq (.stm [4,5] [kM 18 6,sd 19 (.call 164 [18]),sn (.store 9 4 19),kM 5 (ki 0)]) .ret
def z92_0:LC:=.seq (.stm [4,6,7] [kM 9 0,kM 10 1,sd 11 (.call 163 [9,10]),kM 8 11,sd 12 (.ext 8 0),sd 13 (.ext 8 1),kM 6 12,kM 7 13]) (.seq z92_2 z92_5)
def z92:LC:=.seq (.stm [0,1,4] [sd 4 (.zero [.int .i64 0,.int .i64 0,.nils,.int .i64 0,.int .i64 0,.bool false,.int .u8 0,.str (bs []),.nils]),kM 5 (ki 0)]) z92_0
theorem jbU:jad Tryz.prog eqs0 136 z92 [.c 4 true 9,.t 5] 20=true:=by kernel_rfl
def z93_4:LC:=.seq (.stm [4,5] [sd 16 (.build [.int .i64 0,.int .i64 0,.nils,.int .i64 0,.int .i64 0,.bool false,.int .u8 0,.str (bs []),.nils] []),kM 17 7,sn (.store 9 4 16),kM 5 17]) .ret
def z93_2:LC:=.seq (.stm [0,1,4,6,7,15] [kM 14 7,sd 15 (.cmp .neq 14 (ki 0))]) (.cond 15 z93_4 .skip)
def z93_5:LC:=.seq (.stm [4,5] [kM 18 0,kM 19 1,kF 20 6 2,kL 21 1 20,sd 22 (.build [.int .i64 0,.int .i64 0,.nils,.int .i64 0,.int .i64 0,.bool false,.int .u8 0,.str (bs []),.nils] [(0,1,18),(1,1,19),(2,1,21)]),sn (.store 9 4 22),kM 5 (ki 0)]) .ret
def z93_0:LC:=.seq (.stm [0,1,4,6,7] [kM 9 0,kM 10 1,sd 11 (.call 45 [9,10]),kM 8 11,sd 12 (.ext 8 0),sd 13 (.ext 8 1),sd 6 (.zero [.int .i64 0,.int .i64 0,.nils]),sn (.store 3 6 12),kM 7 13]) (.seq z93_2 z93_5)
def z93:LC:=.seq (.stm [0,1,4] [sd 4 (.zero [.int .i64 0,.int .i64 0,.nils,.int .i64 0,.int .i64 0,.bool false,.int .u8 0,.str (bs []),.nils]),kM 5 (ki 0)]) z93_0
theorem jc0:jad Tryz.prog eqs0 23 z93 [.c 4 true 9,.t 5] 23=true:=by kernel_rfl
end
section
open Go.RowKit
set_option maxRecDepth 100000
def z94_6:LC:=.seq (.stm [1,2,5,6,15] [kM 12 6,kF 13 2 1,kL 14 1 13,sd 15 (.lt 12 14)]) (.cond 15 .skip (.exit 0))
def z94_25:LC:=.cond 60 (.stm [1,2,5,6,7,34,35] [kM 61 7,kM 62 8,kM 63 10,sd 64 (.add 63 (ki 1)),sd 65 (.conv .u16 true 64),sd 66 (.ixS 6 61 62),kF 67 66 2,kF 68 67 3,sn (.store 1 68 65)]) .skip
def z94_24:LC:=.seq (.stm [1,2,5,6,7,8,10,34,35,60] [kM 55 9,sd 56 (.cmp .neq 55 (.c (.str (bs [])))),kM 57 56,.g 57 true [kM 58 10,sd 59 (.cmp .geq 58 (ki 0))] 60 59 kf]) z94_25
def z94_23:LC:=.seq (.stm [1,2,5,6,7,8,9,10,34,35] [kM 52 1,kM 53 9,sd 54 (.call 122 [52,53]),kM 10 54]) z94_24
def z94_22:LC:=.seq (.stm [1,2,5,6,7,8,9,34,35] [kM 47 7,kM 48 8,sd 49 (.ixS 6 47 48),kF 50 49 2,kF 51 50 3,sn (.store 1 51 (.c (.int .u16 0)))]) z94_23
def z94_21:LC:=.seq (.reg [1,2,5,6,7,8,9,34,35] [kR 0 38 (.fa 2 8),kR 1 39 (.ld 1 38),kR 2 40 (.mov 7),kR 3 41 (.mov 8),kR 4 42 (.ixS 6 40 41),kR 5 43 (.fa 42 2),kR 6 44 (.fa 43 3),kR 7 45 (.ld 1 44),⟨8,some 46,none,.call 121 [39,45],false,true⟩,kR 9 9 (.mov 46)]) z94_22
def z94_20:LC:=.seq (.stm [1,2,5,6,7,8,34,35] [kM 37 35,kM 8 37]) z94_21
def z94_18:LC:=.seq (.block 3 z94_20) (.stm [1,2,5,6,7,34,35] [sd 69 (.add 35 (ki 1)),kM 35 69])
def z94_15:LC:=.seq (.stm [1,2,5,6,7,34,35,36] [sd 36 (.lt 35 34)]) (.seq (.cond 36 .skip (.exit 2)) z94_18)
def z94_14:LC:=.loop z94_15
def z94_12:LC:=.seq (.stm [1,2,5,6,7,34,35] [kM 33 7,sd 34 (.len false 33),kM 35 (ki 0)]) (.block 2 z94_14)
def z94_11:LC:=.seq z94_12 (.stm [1,2,5,6] [kM 70 5,kM 71 7,sd 72 (.bslice (.rows .cell) [71]),sd 73 (.app (.rows .cell) 70 72),kM 5 73])
def z94_10:LC:=.seq (.stm [1,2,5,6,7] [kF 18 2 2,kL 19 1 18,kM 20 6,kF 21 2 0,kL 22 1 21,sd 23 (.ari .mul false 20 22),kM 24 6,kF 25 2 0,kL 26 1 25,sd 27 (.ari .mul false 24 26),kF 28 2 0,kL 29 1 28,sd 30 (.add 27 29),sd 31 (.sl false 6 19 (some 23) (some 30) none),sd 32 (.call 84 [31]),kM 7 32]) z94_11
def z94_8:LC:=.seq (.block 1 z94_10) (.stm [1,2,5,6] [kM 16 6,sd 17 (.add 16 (ki 1)),kM 6 17])
def z94_4:LC:=.loop (.seq z94_6 z94_8)
def z94_1:LC:=.seq (.seq (.stm [1,2,5,6] [kM 6 (ki 0)]) (.block 0 z94_4)) (.seq (.stm [4] [kM 74 5,kM 4 74]) .ret)
def z94_0:LC:=.seq (.stm [1,2,5] [sd 11 (.bslice (.rows .cell) []),kM 5 11]) z94_1
def z94:LC:=.seq (.stm [1,2] [sd 2 (.box 0),kM 4 kn]) z94_0
theorem jjH:jad Tryz.prog eqs0 112 z94 [.t 4] 75=true:=by kernel_rfl
def z95_6:LC:=.seq (.stm [1,3,4,9] [kM 6 4,kF 7 1 1,kL 8 1 7,sd 9 (.lt 6 8)]) (.cond 9 .skip (.exit 0))
def z95_9:LC:=.block 1 (.stm [1,3,4] [kM 12 3,kF 13 1 2,kL 14 1 13,kM 15 4,kF 16 1 0,kL 17 1 16,sd 18 (.ari .mul false 15 17),kM 19 4,kF 20 1 0,kL 21 1 20,sd 22 (.ari .mul false 19 21),kF 23 1 0,kL 24 1 23,sd 25 (.add 22 24),sd 26 (.sl false 6 14 (some 18) (some 25) none),sd 27 (.call 84 [26]),sd 28 (.bslice (.rows .cell) [27]),sd 29 (.app (.rows .cell) 12 28),kM 3 29])
def z95_8:LC:=.seq z95_9 (.stm [1,3,4] [kM 10 4,sd 11 (.add 10 (ki 1)),kM 4 11])
def z95_4:LC:=.loop (.seq z95_6 z95_8)
def z95_1:LC:=.seq (.seq (.stm [1,3,4] [kM 4 (ki 0)]) (.block 0 z95_4)) (.seq (.stm [2] [kM 30 3,kM 2 30]) .ret)
def z95_0:LC:=.seq (.stm [1,3] [sd 5 (.bslice (.rows .cell) []),kM 3 5]) z95_1
def z95:LC:=.seq (.stm [1] [sd 1 (.box 0),kM 2 kn]) z95_0
theorem jkN:jad Tryz.prog eqs0 80 z95 [.t 2] 31=true:=by kernel_rfl
def z96_21:LC:=.cond 35 (.stm [0,1,5,6,9,10,17,18] [kM 36 5,sd 37 (.add 36 (ki 1)),kM 5 37]) .skip
def z96_20:LC:=.seq (.reg [0,1,5,6,9,10,17,18,35] [kR 0 21 (.mov 0),kR 1 22 (.mov 6),kR 2 23 (.ixS 1 21 22),kR 3 24 (.ld 1 23),kR 4 25 (.mov 7),kR 5 26 (.ixS 6 24 25),kR 6 27 (.load true 6 26),kR 7 28 (.mov 1),kR 8 29 (.mov 6),kR 9 30 (.ixS 1 28 29),kR 10 31 (.ld 1 30),kR 11 32 (.mov 7),kR 12 33 (.ixS 6 31 32),kR 13 34 (.load true 6 33),kR 14 35 (.eqA [.i32,.u8,.u32,.u32,.u8,.u16] true 27 34)]) z96_21
def z96_19:LC:=.seq (.stm [0,1,5,6,7,9,10,17,18] [kM 20 18,kM 7 20]) z96_20
def z96_17:LC:=.seq (.block 3 z96_19) (.stm [0,1,5,6,9,10,17,18] [sd 38 (.add 18 (ki 1)),kM 18 38])
def z96_14:LC:=.seq (.stm [0,1,5,6,9,10,17,18,19] [sd 19 (.lt 18 17)]) (.seq (.cond 19 .skip (.exit 2)) z96_17)
def z96_13:LC:=.loop z96_14
def z96_11:LC:=.seq (.stm [0,1,5,6,9,10,17,18] [kM 13 0,kM 14 6,sd 15 (.ixS 1 13 14),kL 16 1 15,sd 17 (.len false 16),kM 18 (ki 0)]) (.block 2 z96_13)
def z96_9:LC:=.block 1 (.seq (.stm [0,1,5,6,9,10] [kM 12 10,kM 6 12]) z96_11)
def z96_8:LC:=.seq z96_9 (.stm [0,1,5,9,10] [sd 39 (.add 10 (ki 1)),kM 10 39])
def z96_5:LC:=.seq (.stm [0,1,5,9,10,11] [sd 11 (.lt 10 9)]) (.seq (.cond 11 .skip (.exit 0)) z96_8)
def z96_4:LC:=.loop z96_5
def z96_2:LC:=.seq (.stm [0,1,5,9,10] [kM 8 0,sd 9 (.len false 8),kM 10 (ki 0)]) (.block 0 z96_4)
def z96_0:LC:=.seq (.stm [0,1,5] [kM 5 (ki 0)]) (.seq z96_2 (.seq (.stm [4] [kM 40 5,kM 4 40]) .ret))
def z96:LC:=.seq (.stm [0,1] [kM 4 (ki 0)]) z96_0
theorem jhJ:jad Tryz.prog eqs0 154 z96 [.t 4] 41=true:=by kernel_rfl
def z97_12:LC:=.cond 24 (.stm [0,1,5,9,10] [kM 25 5,kM 26 0,kM 27 6,kM 28 1,sd 29 (.add 27 28),sd 30 (.ixS 1 26 29),kL 31 1 30,sd 32 (.call 84 [31]),sd 33 (.bslice (.rows .cell) [32]),sd 34 (.app (.rows .cell) 25 33),kM 5 34]) (.stm [0,1,5,9,10] [kM 35 5,kM 36 0,kM 37 6,sd 38 (.ixS 1 36 37),kL 39 1 38,sd 40 (.len false 39),sd 41 (.build [.int .u32 0,.int .u32 0,.int .u8 0,.int .u16 0] []),sd 42 (.call 97 [40,41]),sd 43 (.bslice (.rows .cell) [42]),sd 44 (.app (.rows .cell) 35 43),kM 5 44])
def z97_11:LC:=.seq (.stm [0,1,5,6,9,10,24] [kM 13 6,kM 14 1,sd 15 (.add 13 14),sd 16 (.cmp .geq 15 (ki 0)),kM 17 16,.g 17 true [kM 18 6,kM 19 1,sd 20 (.add 18 19),kM 21 0,sd 22 (.len false 21),sd 23 (.lt 20 22)] 24 23 kf]) z97_12
def z97_9:LC:=.block 1 (.seq (.stm [0,1,5,6,9,10] [kM 12 10,kM 6 12]) z97_11)
def z97_8:LC:=.seq z97_9 (.stm [0,1,5,9,10] [sd 45 (.add 10 (ki 1)),kM 10 45])
def z97_5:LC:=.seq (.stm [0,1,5,9,10,11] [sd 11 (.lt 10 9)]) (.seq (.cond 11 .skip (.exit 0)) z97_8)
def z97_4:LC:=.loop z97_5
def z97_2:LC:=.seq (.stm [0,1,5,9,10] [kM 8 0,sd 9 (.len false 8),kM 10 (ki 0)]) (.block 0 z97_4)
def z97_0:LC:=.seq (.stm [0,1,5] [sd 7 (.bslice (.rows .cell) []),kM 5 7]) (.seq z97_2 (.seq (.stm [4] [kM 46 5,kM 4 46]) .ret))
def z97:LC:=.seq (.stm [0,1] [kM 4 kn]) z97_0
theorem jdr:jad Tryz.prog eqs0 79 z97 [.t 4] 47=true:=by kernel_rfl
def z98_7:LC:=.seq (.stm [0,1,5,6,7,18] [kM 13 7,kM 14 0,sd 15 (.len false 14),sd 16 (.ari .mul false (ki 2) 15),sd 17 (.sub 16 (ki 1)),sd 18 (.lt 13 17)]) (.cond 18 .skip (.exit 0))
def z98_14:LC:=.cond 26 (.stm [0,1,5,6,7,8] [kM 27 8,sd 28 (.un .neg 27),kM 8 28]) .skip
def z98_13:LC:=.seq (.stm [0,1,5,6,7,8,26] [kM 24 7,sd 25 (.ari .rem false 24 (ki 2)),sd 26 (.eq 25 (ki 0))]) z98_14
def z98_18:LC:=.seq (.stm [0,1,5,7,9] [kM 37 8,kM 5 37]) (.stm [0,1,5,6,7] [kM 38 9,kM 6 38])
def z98_16:LC:=.seq (.stm [0,1,5,6,7,8,9,36] [kM 34 9,kM 35 6,sd 36 (.lt 34 35)]) (.cond 36 z98_18 .skip)
def z98_15:LC:=.seq (.stm [0,1,5,6,7,8,9] [kM 29 0,kM 30 8,sd 31 (.call 79 [29,30]),kM 32 1,sd 33 (.call 154 [31,32]),kM 9 33]) z98_16
def z98_11:LC:=.seq (.stm [0,1,5,6,7,8] [kM 21 7,sd 22 (.add 21 (ki 1)),sd 23 (.ari .quo false 22 (ki 2)),kM 8 23]) (.seq z98_13 z98_15)
def z98_9:LC:=.seq (.block 1 z98_11) (.stm [0,1,5,6,7] [kM 19 7,sd 20 (.add 19 (ki 1)),kM 7 20])
def z98_5:LC:=.loop (.seq z98_7 z98_9)
def z98_2:LC:=.seq (.seq (.stm [0,1,5,6,7] [kM 7 (ki 1)]) (.block 0 z98_5)) (.seq (.stm [4] [kM 39 5,kM 4 39]) .ret)
def z98_1:LC:=.seq (.stm [0,1,5,6] [kM 10 0,kM 11 1,sd 12 (.call 154 [10,11]),kM 6 12]) z98_2
def z98_0:LC:=.seq (.stm [0,1,5] [kM 5 (ki 0)]) z98_1
def z98:LC:=.seq (.stm [0,1] [kM 4 (ki 0)]) z98_0
theorem jkO:jad Tryz.prog eqs0 113 z98 [.t 4] 40=true:=by kernel_rfl
def z99_24:LC:=.cond 40 (.stm [0,1,5,6,7,8,9,19,20,27,28] [kM 9 (ki 2)]) .skip
def z99_23:LC:=.seq (.stm [0,1,5,6,7,8,9,19,20,27,28,40] [kF 38 8 1,kL 39 1 38,sd 40 (.eq 39 (k8 1))]) z99_24
def z99_26:LC:=.cond 65 (.reg [0,1,5,6,19,20,27,28] [kR 0 66 (.mov 5),kR 1 67 (.mov 6),kR 2 68 (.mov 1),kR 3 69 (.mov 6),kR 4 70 (.ixS 1 68 69),kR 5 71 (.ld 1 70),kR 6 72 (.len false 71),kR 7 73 (.ari .mul false 67 72),kR 8 74 (.mov 7),kR 9 75 (.add 73 74),kR 10 76 (.mov 9),kR 11 77 (.load true 6 8),kR 12 78 (.build [.int .i64 0,.int .i64 0,.int .i32 0,.int .u8 0,.int .u32 0,.int .u32 0,.int .u8 0,.int .u16 0] [(0,1,75),(1,1,76),(2,6,77)]),kR 13 79 (.bslice (.pair (.int .i64) (.pair (.int .i64) .cell)) [78]),⟨14,some 80,none,.app (.pair (.int .i64) (.pair (.int .i64) .cell)) 66 79,false,true⟩,kR 15 5 (.mov 80)]) .skip
def z99_25:LC:=.seq (.reg [0,1,5,6,7,8,9,19,20,27,28,65] [kR 0 41 (.fa 8 1),kR 1 42 (.ld 1 41),kR 2 43 (.cmp .neq 42 (k8 2)),kR 3 44 (.mov 43),⟨4,some 45,some (44,true),.mov 0,false,false⟩,⟨5,some 46,some (44,true),.mov 6,false,false⟩,⟨6,some 47,some (44,true),.ixS 1 45 46,false,false⟩,⟨7,some 48,some (44,true),.load false 1 47,false,false⟩,⟨8,some 49,some (44,true),.mov 7,false,false⟩,⟨9,some 50,some (44,true),.mov 7,false,false⟩,⟨10,some 51,some (44,true),.mov 9,false,false⟩,⟨11,some 52,some (44,true),.add 50 51,false,false⟩,⟨12,some 53,some (44,true),.sl false 6 48 (some 49) (some 52) none,false,false⟩,⟨13,some 54,some (44,true),.mov 1,false,false⟩,⟨14,some 55,some (44,true),.mov 6,false,false⟩,⟨15,some 56,some (44,true),.ixS 1 54 55,false,false⟩,⟨16,some 57,some (44,true),.load false 1 56,false,false⟩,⟨17,some 58,some (44,true),.mov 7,false,false⟩,⟨18,some 59,some (44,true),.mov 7,false,false⟩,⟨19,some 60,some (44,true),.mov 9,false,false⟩,⟨20,some 61,some (44,true),.add 59 60,false,false⟩,⟨21,some 62,some (44,true),.sl false 6 57 (some 58) (some 61) none,false,false⟩,⟨22,some 63,some (44,true),.call 83 [53,62],false,true⟩,⟨23,some 64,some (44,true),.un .not 63,false,false⟩,kR 24 65 (.pick 44 64 kf)]) z99_26
def z99_21:LC:=.seq (.stm [0,1,5,6,7,8,9,19,20,27,28] [kM 9 (ki 1)]) (.seq z99_23 z99_25)
def z99_20:LC:=.seq (.stm [0,1,5,6,7,8,19,20,27,28] [kM 31 1,kM 32 6,sd 33 (.ixS 1 31 32),kL 34 1 33,kM 35 7,sd 36 (.ixS 6 34 35),sd 37 (.load true 6 36),sd 8 (.zero [.int .i32 0,.int .u8 0,.int .u32 0,.int .u32 0,.int .u8 0,.int .u16 0]),sn (.store 6 8 37)]) z99_21
def z99_19:LC:=.seq (.stm [0,1,5,6,7,19,20,27,28] [kM 30 28,kM 7 30]) z99_20
def z99_17:LC:=.seq (.block 3 z99_19) (.stm [0,1,5,6,19,20,27,28] [sd 81 (.add 28 (ki 1)),kM 28 81])
def z99_14:LC:=.seq (.stm [0,1,5,6,19,20,27,28,29] [sd 29 (.lt 28 27)]) (.seq (.cond 29 .skip (.exit 2)) z99_17)
def z99_13:LC:=.loop z99_14
def z99_11:LC:=.seq (.stm [0,1,5,6,19,20,27,28] [kM 23 1,kM 24 6,sd 25 (.ixS 1 23 24),kL 26 1 25,sd 27 (.len false 26),kM 28 (ki 0)]) (.block 2 z99_13)
def z99_9:LC:=.block 1 (.seq (.stm [0,1,5,6,19,20] [kM 22 20,kM 6 22]) z99_11)
def z99_8:LC:=.seq z99_9 (.stm [0,1,5,19,20] [sd 82 (.add 20 (ki 1)),kM 20 82])
def z99_5:LC:=.seq (.stm [0,1,5,19,20,21] [sd 21 (.lt 20 19)]) (.seq (.cond 21 .skip (.exit 0)) z99_8)
def z99_4:LC:=.loop z99_5
def z99_2:LC:=.seq (.stm [0,1,5,19,20] [kM 18 1,sd 19 (.len false 18),kM 20 (ki 0)]) (.block 0 z99_4)
def z99_28:LC:=.seq (.stm [5,85] [kM 83 5,sd 84 (.len false 83),sd 85 (.eq 84 (ki 0))]) (.cond 85 (.seq (.stm [4] [kM 4 kn]) .ret) .skip)
def z99_39:LC:=.seq (.stm [5,10,11,12,13,90] [kM 87 13,kM 88 5,sd 89 (.len false 88),sd 90 (.lt 87 89)]) (.cond 90 .skip (.exit 4))
def z99_47:LC:=.seq (.reg [5,10,11,12,13,14,132] [kR 0 93 (.mov 14),kR 1 94 (.mov 5),kR 2 95 (.len false 94),kR 3 96 (.lt 93 95),kR 4 97 (.mov 96),⟨5,some 98,some (97,true),.mov 5,false,false⟩,⟨6,some 99,some (97,true),.mov 14,false,false⟩,⟨7,some 100,some (97,true),.ixS 8 98 99,false,false⟩,⟨8,some 101,some (97,true),.faddr 100 0,false,false⟩,⟨9,some 102,some (97,true),.load false 1 101,false,false⟩,⟨10,some 103,some (97,true),.mov 5,false,false⟩,⟨11,some 104,some (97,true),.mov 14,false,false⟩,⟨12,some 105,some (97,true),.sub 104 (ki 1),false,false⟩,⟨13,some 106,some (97,true),.ixS 8 103 105,false,false⟩,⟨14,some 107,some (97,true),.faddr 106 0,false,false⟩,⟨15,some 108,some (97,true),.load false 1 107,false,false⟩,⟨16,some 109,some (97,true),.mov 5,false,false⟩,⟨17,some 110,some (97,true),.mov 14,false,false⟩,⟨18,some 111,some (97,true),.sub 110 (ki 1),false,false⟩,⟨19,some 112,some (97,true),.ixS 8 109 111,false,false⟩,⟨20,some 113,some (97,true),.faddr 112 1,false,false⟩,⟨21,some 114,some (97,true),.load false 1 113,false,false⟩,⟨22,some 115,some (97,true),.add 108 114,false,false⟩,⟨23,some 116,some (97,true),.eq 102 115,false,false⟩,kR 24 117 (.pick 97 116 kf),kR 25 118 (.mov 117),⟨26,some 119,some (118,true),.mov 5,false,false⟩,⟨27,some 120,some (118,true),.mov 14,false,false⟩,⟨28,some 121,some (118,true),.ixS 8 119 120,false,false⟩,⟨29,some 122,some (118,true),.faddr 121 2,false,false⟩,⟨30,some 123,some (118,true),.faddr 122 2,false,false⟩,⟨31,some 124,some (118,true),.load true 4 123,false,false⟩,⟨32,some 125,some (118,true),.mov 5,false,false⟩,⟨33,some 126,some (118,true),.mov 13,false,false⟩,⟨34,some 127,some (118,true),.ixS 8 125 126,false,false⟩,⟨35,some 128,some (118,true),.faddr 127 2,false,false⟩,⟨36,some 129,some (118,true),.faddr 128 2,false,false⟩,⟨37,some 130,some (118,true),.load true 4 129,false,false⟩,⟨38,some 131,some (118,true),.eqA [.u32,.u32,.u8,.u16] false 124 130,false,false⟩,kR 39 132 (.pick 118 131 kf)]) (.cond 132 .skip (.exit 6))
def z99_49:LC:=.block 7 (.stm [5,10,11,12,13,14] [kM 133 14,sd 134 (.add 133 (ki 1)),kM 14 134])
def z99_45:LC:=.loop (.seq z99_47 z99_49)
def z99_44:LC:=.block 6 z99_45
def z99_57:LC:=.seq (.stm [5,10,11,14,16,170] [kM 168 16,kM 169 14,sd 170 (.lt 168 169)]) (.cond 170 .skip (.exit 8))
def z99_60:LC:=.block 9 (.stm [5,10,11,14,16] [kM 173 10,kM 174 5,kM 175 16,sd 176 (.ixS 8 174 175),kF 177 176 2,kF 178 177 0,kL 179 1 178,sd 180 (.conv .i64 false 179),sd 181 (.bslice (.int .i64) [180]),sd 182 (.call 64 [181]),sd 183 (.app (.int .u8) 173 182),kM 10 183])
def z99_59:LC:=.seq z99_60 (.stm [5,10,11,14,16] [kM 171 16,sd 172 (.add 171 (ki 1)),kM 16 172])
def z99_55:LC:=.loop (.seq z99_57 z99_59)
def z99_53:LC:=.seq (.stm [5,10,11,14,16] [kM 167 13,kM 16 167]) (.block 8 z99_55)
def z99_62:LC:=.seq (.stm [5,10,11,12,13] [kM 197 14,kM 13 197]) (.stm [5,10,11,12,13] [kM 198 11,sd 199 (.add 198 (ki 1)),kM 11 199])
def z99_61:LC:=.seq (.reg [5,10,11,12,14] [kR 0 184 (.mov 5),kR 1 185 (.mov 14),kR 2 186 (.sub 185 (ki 1)),kR 3 187 (.ixS 8 184 186),kR 4 188 (.fa 187 0),kR 5 189 (.ld 1 188),kR 6 190 (.mov 5),kR 7 191 (.mov 14),kR 8 192 (.sub 191 (ki 1)),kR 9 193 (.ixS 8 190 192),kR 10 194 (.fa 193 1),kR 11 195 (.ld 1 194),kR 12 196 (.add 189 195),kR 13 12 (.mov 196)]) z99_62
def z99_51:LC:=.seq (.reg [5,10,11,13,14] [kR 0 141 (.mov 10),kR 1 142 (.mov 5),kR 2 143 (.mov 13),kR 3 144 (.ixS 8 142 143),kR 4 145 (.fa 144 0),kR 5 146 (.ld 1 145),kR 6 147 (.mov 12),kR 7 148 (.sub 146 147),kR 8 149 (.mov 14),kR 9 150 (.mov 13),kR 10 151 (.sub 149 150),kR 11 152 (.fa 15 0),kR 12 153 (.ld 1 152),kR 13 154 (.conv .i64 false 153),kR 14 155 (.fa 15 1),kR 15 156 (.ld 1 155),kR 16 157 (.conv .i64 false 156),kR 17 158 (.fa 15 2),kR 18 159 (.ld 1 158),kR 19 160 (.conv .i64 false 159),kR 20 161 (.fa 15 3),kR 21 162 (.ld 1 161),kR 22 163 (.conv .i64 false 162),kR 23 164 (.bslice (.int .i64) [148,151,154,157,160,163]),⟨24,some 165,none,.call 64 [164],false,true⟩,⟨25,some 166,none,.app (.int .u8) 141 165,false,true⟩,kR 26 10 (.mov 166)]) (.seq z99_53 z99_61)
def z99_50:LC:=.seq (.stm [5,10,11,12,13,14,15] [kM 135 5,kM 136 13,sd 137 (.ixS 8 135 136),kF 138 137 2,kF 139 138 2,sd 140 (.load true 4 139),sd 15 (.zero [.int .u32 0,.int .u32 0,.int .u8 0,.int .u16 0]),sn (.store 4 15 140)]) z99_51
def z99_42:LC:=.seq (.stm [5,10,11,12,13,14] [kM 91 13,sd 92 (.add 91 (ki 1)),kM 14 92]) (.seq z99_44 z99_50)
def z99_37:LC:=.loop (.seq z99_39 (.block 5 z99_42))
def z99_35:LC:=.seq (.stm [5,10,11,12,13] [kM 13 (ki 0)]) (.block 4 z99_37)
def z99_63:LC:=.seq (.stm [4] [sd 200 (.bslice (.int .u8) [(k8 8)]),kM 201 11,sd 202 (.bslice (.int .i64) [201]),sd 203 (.call 64 [202]),sd 204 (.app (.int .u8) 200 203),kM 205 10,sd 206 (.app (.int .u8) 204 205),kM 4 206]) .ret
def z99_33:LC:=.seq (.stm [5,10,11,12] [kM 12 (ki 0)]) (.seq z99_35 z99_63)
def z99_31:LC:=.seq (.stm [5,10] [sd 86 (.bslice (.int .u8) []),kM 10 86]) (.seq (.stm [5,10,11] [kM 11 (ki 0)]) z99_33)
def z99_0:LC:=.seq (.stm [0,1,5] [sd 17 (.bslice (.pair (.int .i64) (.pair (.int .i64) .cell)) []),kM 5 17]) (.seq z99_2 (.seq z99_28 z99_31))
def z99:LC:=.seq (.stm [0,1] [kM 4 kn]) z99_0
theorem jkP:jad Tryz.prog eqs0 114 z99 [.t 4] 207=true:=by kernel_rfl
def z100_7:LC:=.cond 52 (.stm [2,3,5] [kM 53 5,sd 54 (.bslice (.int .u8) [(k8 1)]),sd 55 (.app (.int .u8) 53 54),kM 5 55]) (.stm [2,3,5] [kM 56 5,sd 57 (.bslice (.int .u8) [(k8 0)]),sd 58 (.app (.int .u8) 56 57),kM 5 58])
def z100_5:LC:=.seq (.stm [2,3,5] [kM 43 5,kF 44 3 3,kL 45 1 44,kF 46 3 4,kL 47 1 46,sd 48 (.bslice (.int .i64) [45,47]),sd 49 (.call 64 [48]),sd 50 (.app (.int .u8) 43 49),kM 5 50]) (.seq (.stm [2,3,5,52] [kF 51 3 5,kL 52 1 51]) z100_7)
def z100_4:LC:=.seq (.stm [2,3,5] [kM 40 5,sd 41 (.bslice (.int .u8) [(k8 2)]),sd 42 (.app (.int .u8) 40 41),kM 5 42]) z100_5
def z100_2:LC:=.seq (.stm [2,3,5,39] [kF 21 3 3,kL 22 1 21,kF 23 2 3,kL 24 1 23,sd 25 (.cmp .neq 22 24),kM 26 25,.g 26 false [kF 27 3 4,kL 28 1 27,kF 29 2 4,kL 30 1 29,sd 31 (.cmp .neq 28 30)] 32 kt 31,kM 33 32,.g 33 false [kF 34 3 5,kL 35 1 34,kF 36 2 5,kL 37 1 36,sd 38 (.cmpB true 35 37)] 39 kt 38]) (.cond 39 z100_4 .skip)
def z100_12:LC:=.seq (.stm [2,3,5,6] [kM 71 5,sd 72 (.bslice (.int .u8) [(k8 3)]),sd 73 (.app (.int .u8) 71 72),kM 5 73]) (.stm [2,3,5] [kM 74 5,kM 75 6,sd 76 (.app (.int .u8) 74 75),kM 5 76])
def z100_11:LC:=.seq (.stm [2,3,5,6] [kF 65 3 7,kL 66 1 65,sd 67 (.s2b 66),sd 68 (.call 111 [67]),kM 64 68,sd 69 (.ext 64 0),sd 70 (.ext 64 1),kM 6 69,kM 7 70]) z100_12
def z100_9:LC:=.seq (.stm [2,3,5,63] [kF 59 3 7,kL 60 1 59,kF 61 2 7,kL 62 1 61,sd 63 (.cmp .neq 60 62)]) (.cond 63 z100_11 .skip)
def z100_15:LC:=.cond 81 (.stm [2,3,5] [kM 82 5,kF 83 3 6,kL 84 1 83,sd 85 (.bslice (.int .u8) [(k8 4),84]),sd 86 (.app (.int .u8) 82 85),kM 5 86]) .skip
def z100_14:LC:=.seq (.stm [2,3,5,81] [kF 77 3 6,kL 78 1 77,kF 79 2 6,kL 80 1 79,sd 81 (.cmp .neq 78 80)]) z100_15
def z100_24:LC:=.seq (.reg [2,3,5,8,117] [kR 0 93 (.mov 8),kR 1 94 (.fa 3 8),kR 2 95 (.ld 1 94),kR 3 96 (.len false 95),kR 4 97 (.lt 93 96),kR 5 98 (.mov 97),⟨6,some 99,some (98,true),.mov 8,false,false⟩,⟨7,some 100,some (98,true),.faddr 2 8,false,false⟩,⟨8,some 101,some (98,true),.load false 1 100,false,false⟩,⟨9,some 102,some (98,true),.len false 101,false,false⟩,⟨10,some 103,some (98,true),.lt 99 102,false,false⟩,kR 11 104 (.pick 98 103 kf),kR 12 105 (.mov 104),⟨13,some 106,some (105,true),.faddr 3 8,false,false⟩,⟨14,some 107,some (105,true),.load false 1 106,false,false⟩,⟨15,some 108,some (105,true),.mov 8,false,false⟩,⟨16,some 109,some (105,true),.ixS 1 107 108,false,false⟩,⟨17,some 110,some (105,true),.load false 1 109,false,false⟩,⟨18,some 111,some (105,true),.faddr 2 8,false,false⟩,⟨19,some 112,some (105,true),.load false 1 111,false,false⟩,⟨20,some 113,some (105,true),.mov 8,false,false⟩,⟨21,some 114,some (105,true),.ixS 1 112 113,false,false⟩,⟨22,some 115,some (105,true),.load false 1 114,false,false⟩,⟨23,some 116,some (105,true),.eq 110 115,false,false⟩,kR 24 117 (.pick 105 116 kf)]) (.cond 117 .skip (.exit 0))
def z100_26:LC:=.block 1 (.stm [2,3,5,8] [kM 118 8,sd 119 (.add 118 (ki 1)),kM 8 119])
def z100_22:LC:=.loop (.seq z100_24 z100_26)
def z100_21:LC:=.block 0 z100_22
def z100_33:LC:=.seq (.stm [2,3,5,9,138] [kM 134 9,kF 135 3 8,kL 136 1 135,sd 137 (.len false 136),sd 138 (.lt 134 137)]) (.cond 138 .skip (.exit 2))
def z100_37:LC:=.seq (.stm [2,3,5,9,10] [kF 142 3 8,kL 143 1 142,kM 144 9,sd 145 (.ixS 1 143 144),kL 146 1 145,sd 147 (.s2b 146),sd 148 (.call 111 [147]),kM 141 148,sd 149 (.ext 141 0),sd 150 (.ext 141 1),kM 10 149,kM 11 150]) (.stm [2,3,5,9] [kM 151 5,kM 152 10,sd 153 (.app (.int .u8) 151 152),kM 5 153])
def z100_35:LC:=.seq (.block 3 z100_37) (.stm [2,3,5,9] [kM 139 9,sd 140 (.add 139 (ki 1)),kM 9 140])
def z100_31:LC:=.loop (.seq z100_33 z100_35)
def z100_29:LC:=.seq (.stm [2,3,5,9] [kM 133 8,kM 9 133]) (.block 2 z100_31)
def z100_28:LC:=.seq (.stm [2,3,5,8] [kM 123 5,kM 124 8,kF 125 3 8,kL 126 1 125,sd 127 (.len false 126),kM 128 8,sd 129 (.sub 127 128),sd 130 (.bslice (.int .i64) [124,129]),sd 131 (.call 64 [130]),sd 132 (.app (.int .u8) 123 131),kM 5 132]) z100_29
def z100_27:LC:=.seq (.stm [2,3,5,8] [kM 120 5,sd 121 (.bslice (.int .u8) [(k8 5)]),sd 122 (.app (.int .u8) 120 121),kM 5 122]) z100_28
def z100_18:LC:=.cond 92 (.seq (.stm [2,3,5,8] [kM 8 (ki 0)]) (.seq z100_21 z100_27)) .skip
def z100_17:LC:=.seq (.stm [2,3,5,92] [kF 87 3 8,kL 88 1 87,kF 89 2 8,kL 90 1 89,sd 91 (.call 34 [88,90]),sd 92 (.un .not 91)]) z100_18
def z100_44:LC:=.seq (.stm [3,5,12,13,14] [kM 165 5,sd 166 (.bslice (.int .u8) [(k8 6)]),sd 167 (.app (.int .u8) 165 166),kM 5 167]) (.stm [3,5,12,13,14] [kM 168 5,kM 169 14,sd 170 (.ari .mul false (ki 2) 169),sd 171 (.sub 170 (ki 1)),sd 172 (.bslice (.int .i64) [171]),sd 173 (.call 64 [172]),sd 174 (.app (.int .u8) 168 173),kM 5 174])
def z100_42:LC:=.seq (.stm [3,5,12,13,14,164] [kM 163 14,sd 164 (.cmp .gtr 163 (ki 0))]) (.cond 164 z100_44 .skip)
def z100_48:LC:=.seq (.stm [3,5,12,13,14] [kM 177 5,sd 178 (.bslice (.int .u8) [(k8 6)]),sd 179 (.app (.int .u8) 177 178),kM 5 179]) (.stm [3,5,12,13,14] [kM 180 5,kM 181 14,sd 182 (.ari .mul false (ki (-2)) 181),sd 183 (.bslice (.int .i64) [182]),sd 184 (.call 64 [183]),sd 185 (.app (.int .u8) 180 184),kM 5 185])
def z100_46:LC:=.seq (.stm [3,5,12,13,14,176] [kM 175 14,sd 176 (.lt 175 (ki 0))]) (.cond 176 z100_48 .skip)
def z100_68:LC:=.seq (.reg [5,12,13,15,16,17,18,19,193,194,219] [kR 0 204 (.mov 19),kR 1 205 (.mov 12),kR 2 206 (.len false 205),kR 3 207 (.lt 204 206),kR 4 208 (.mov 207),⟨5,some 209,some (208,true),.mov 12,false,false⟩,⟨6,some 210,some (208,true),.mov 18,false,false⟩,⟨7,some 211,some (208,true),.ixS 1 209 210,false,false⟩,⟨8,some 212,some (208,true),.load false 1 211,false,false⟩,⟨9,some 213,some (208,true),.mov 13,false,false⟩,⟨10,some 214,some (208,true),.mov 18,false,false⟩,⟨11,some 215,some (208,true),.ixS 1 213 214,false,false⟩,⟨12,some 216,some (208,true),.load false 1 215,false,false⟩,⟨13,some 217,some (208,true),.call 83 [212,216],false,true⟩,⟨14,some 218,some (208,true),.un .not 217,false,false⟩,kR 15 219 (.pick 208 218 kf)]) (.cond 219 .skip (.exit 6))
def z100_76:LC:=.seq (.stm [5,12,13,15,16,17,193,194] [kM 245 18,sd 246 (.add 245 (ki 1)),kM 17 246]) (.exit 6)
def z100_75:LC:=.seq (.stm [5,12,13,15,16,18,193,194] [kM 238 16,kM 239 18,kM 240 17,sd 241 (.sub 239 240),kM 242 19,sd 243 (.bslice (.int .i64) [241,242]),sd 244 (.app (.int .i64) 238 243),kM 16 244]) z100_76
def z100_74:LC:=.seq (.stm [5,12,13,15,16,17,18,19,193,194] [kM 231 15,kM 232 18,kM 233 13,kM 234 18,sd 235 (.ixS 1 233 234),kL 236 1 235,sd 237 (.ixS 1 231 232),sn (.store 1 237 236)]) z100_75
def z100_72:LC:=.seq (.reg [5,12,13,15,16,17,18,19,193,194,230] [kR 0 222 (.mov 12),kR 1 223 (.mov 19),kR 2 224 (.ixS 1 222 223),kR 3 225 (.ld 1 224),kR 4 226 (.mov 13),kR 5 227 (.mov 18),kR 6 228 (.ixS 1 226 227),kR 7 229 (.ld 1 228),⟨8,some 230,none,.call 83 [225,229],false,true⟩]) (.cond 230 z100_74 .skip)
def z100_70:LC:=.seq (.block 7 z100_72) (.stm [5,12,13,15,16,17,18,19,193,194] [kM 220 19,sd 221 (.add 220 (ki 1)),kM 19 221])
def z100_66:LC:=.loop (.seq z100_68 z100_70)
def z100_64:LC:=.seq (.stm [5,12,13,15,16,17,18,19,193,194] [kM 19 (ki 0)]) (.block 6 z100_66)
def z100_63:LC:=.seq (.stm [5,12,13,15,16,17,18,193,194] [kM 197 15,kM 198 18,kM 199 12,kM 200 18,sd 201 (.ixS 1 199 200),kL 202 1 201,sd 203 (.ixS 1 197 198),sn (.store 1 203 202)]) z100_64
def z100_62:LC:=.seq (.stm [5,12,13,15,16,17,18,193,194] [kM 196 194,kM 18 196]) z100_63
def z100_60:LC:=.seq (.block 5 z100_62) (.stm [5,12,13,15,16,17,193,194] [sd 247 (.add 194 (ki 1)),kM 194 247])
def z100_57:LC:=.seq (.stm [5,12,13,15,16,17,193,194,195] [sd 195 (.lt 194 193)]) (.seq (.cond 195 .skip (.exit 4)) z100_60)
def z100_56:LC:=.loop z100_57
def z100_54:LC:=.seq (.stm [5,12,13,15,16,17,193,194] [kM 192 13,sd 193 (.len false 192),kM 194 (ki 0)]) (.block 4 z100_56)
def z100_81:LC:=.seq (.stm [5,13,15,16] [kM 254 5,kM 255 16,sd 256 (.len false 255),sd 257 (.ari .quo false 256 (ki 2)),sd 258 (.bslice (.int .i64) [257]),sd 259 (.call 64 [258]),sd 260 (.app (.int .u8) 254 259),kM 5 260]) (.stm [5,13,15] [kM 261 5,kM 262 16,sd 263 (.call 64 [262]),sd 264 (.app (.int .u8) 261 263),kM 5 264])
def z100_80:LC:=.seq (.stm [5,13,15,16] [kM 251 5,sd 252 (.bslice (.int .u8) [(k8 7)]),sd 253 (.app (.int .u8) 251 252),kM 5 253]) z100_81
def z100_78:LC:=.seq (.stm [5,13,15,16,250] [kM 248 16,sd 249 (.len false 248),sd 250 (.cmp .gtr 249 (ki 0))]) (.cond 250 z100_80 .skip)
def z100_82:LC:=.seq (.stm [4] [kM 265 5,kM 266 15,kM 267 13,sd 268 (.call 114 [266,267]),sd 269 (.app (.int .u8) 265 268),kM 4 269]) .ret
def z100_52:LC:=.seq (.stm [5,12,13,15,16,17] [kM 17 (ki 0)]) (.seq z100_54 (.seq z100_78 z100_82))
def z100_51:LC:=.seq (.stm [5,12,13,15,16] [sd 191 (.bslice (.int .i64) []),kM 16 191]) z100_52
def z100_50:LC:=.seq (.stm [5,12,13,15] [sd 189 (.load true 9 3),sd 190 (.call 80 [189]),kM 15 190]) z100_51
def z100_49:LC:=.seq (.stm [3,5,12,13] [kM 186 12,kM 187 14,sd 188 (.call 79 [186,187]),kM 12 188]) z100_50
def z100_40:LC:=.seq (.stm [3,5,12,13,14] [kM 160 12,kM 161 13,sd 162 (.call 113 [160,161]),kM 14 162]) (.seq z100_42 (.seq z100_46 z100_49))
def z100_39:LC:=.seq (.stm [3,5,12,13] [sd 158 (.load true 9 3),sd 159 (.call 80 [158]),kM 13 159]) z100_40
def z100_38:LC:=.seq (.stm [3,5,12] [sd 154 (.load true 9 2),kF 155 3 8,kL 156 1 155,sd 157 (.call 112 [154,156]),kM 12 157]) z100_39
def z100_0:LC:=.seq (.stm [2,3,5] [sd 20 (.bslice (.int .u8) []),kM 5 20]) (.seq z100_2 (.seq z100_9 (.seq z100_14 (.seq z100_17 z100_38))))
def z100:LC:=.seq (.stm [2,3] [sd 2 (.box 0),sd 3 (.box 1),kM 4 kn]) z100_0
theorem jhh:jad Tryz.prog eqs0 65 z100 [.t 4] 270=true:=by kernel_rfl
def z101_2:LC:=.cond 8 (.seq (.stm [2,3] [kM 2 kn,kM 3 (ki 1)]) .ret) .skip
def z101_1:LC:=.seq (.stm [1,8] [sd 6 (.load true 9 1),sd 7 (.call 20 [6]),sd 8 (.un .not 7)]) z101_2
def z101_5:LC:=.seq (.reg [2,3] [kR 1 18 (.fa 1 0),kR 2 19 (.ld 1 18),kR 3 20 (.fa 1 1),kR 4 21 (.ld 1 20),kR 8 25 (.load true 9 4),kR 9 26 (.load true 9 1),kR 5 22 (.bslice (.int .i64) [19,21]),⟨6,some 23,none,.call 64 [22],true,false⟩,kR 0 17 (.bslice (.int .u8) [(k8 1)]),⟨7,some 24,none,.app (.int .u8) 17 23,true,true⟩,⟨10,some 27,none,.call 65 [25,26],false,true⟩,⟨11,some 28,none,.app (.int .u8) 24 27,false,true⟩,kR 12 2 (.mov 28),kR 13 3 (.mov (ki 0))]) .ret
def z101_4:LC:=.seq (.stm [1,4] [kF 10 1 0,kL 11 1 10,kF 12 1 1,kL 13 1 12,sd 14 (.call 23 [11,13]),kM 9 14,sd 15 (.ext 9 0),sd 16 (.ext 9 1),sd 4 (.zero [.int .i64 0,.int .i64 0,.nils,.int .i64 0,.int .i64 0,.bool false,.int .u8 0,.str (bs []),.nils]),sn (.store 9 4 15),kM 5 16]) z101_5
def z101_0:LC:=.seq z101_1 z101_4
def z101:LC:=.seq (.stm [1] [sd 1 (.box 0),kM 2 kn,kM 3 (ki 0)]) z101_0
theorem jhi:jad Tryz.prog eqs0 28 z101 [.t 2,.t 3] 29=true:=by kernel_rfl
def z102_2:LC:=.cond 13 (.seq (.stm [4,5] [kM 4 kn,kM 5 (ki 1)]) .ret) .skip
def z102_1:LC:=.seq (.stm [2,3,13] [sd 6 (.load true 9 2),sd 7 (.call 20 [6]),sd 8 (.un .not 7),kM 9 8,.g 9 false [sd 10 (.load true 9 3),sd 11 (.call 20 [10]),sd 12 (.un .not 11)] 13 kt 12]) z102_2
def z102_7:LC:=.seq (.stm [4,5] [sd 26 (.load true 9 3),sd 27 (.call 28 [26]),sd 28 (.ext 27 0),sd 29 (.ext 27 1),kM 4 28,kM 5 29]) .ret
def z102_5:LC:=.seq (.stm [2,3,25] [kF 14 2 0,kL 15 1 14,kF 16 3 0,kL 17 1 16,sd 18 (.cmp .neq 15 17),kM 19 18,.g 19 false [kF 20 2 1,kL 21 1 20,kF 22 3 1,kL 23 1 22,sd 24 (.cmp .neq 21 23)] 25 kt 24]) (.cond 25 z102_7 .skip)
def z102_8:LC:=.seq (.stm [4,5] [sd 30 (.load true 9 2),sd 31 (.load true 9 3),sd 32 (.call 65 [30,31]),kM 4 32,kM 5 (ki 0)]) .ret
def z102_0:LC:=.seq z102_1 (.seq z102_5 z102_8)
def z102:LC:=.seq (.stm [2,3] [sd 2 (.box 0),sd 3 (.box 1),kM 4 kn,kM 5 (ki 0)]) z102_0
theorem jhK:jad Tryz.prog eqs0 60 z102 [.t 4,.t 5] 33=true:=by kernel_rfl
end
end Go.Proofs.YtienkkicehmchaaGreatDoor
