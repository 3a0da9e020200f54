/- Texts of this claim, merged by a program of this claim: KRows. -/
import Derived.Test.YtienkkicehmchaaGreatDoorDa5
namespace Go.Proofs.YtienkkicehmchaaGreatDoor
set_option linter.unusedVariables false
set_option linter.unusedSimpArgs false
section
open Go.RowKit
set_option maxRecDepth 100000
def z97_3:LC:=.seq (.stm [4] [kM 4 kn]) .ret
def z97_2:LC:=.cond 12 z97_3 .skip
def z97_1:LC:=.seq (.stm [0,1,12] [kM 7 1,sd 8 (.lt 7 (ki 1)),kM 9 8,.g 9 false [kM 10 1,sd 11 (.cmp .gtr 10 (ki 8))] 12 kt 11]) z97_2
def z97_11:LC:=.cond 18 .skip (.exit 0)
def z97_10:LC:=.seq (.stm [0,5,6,18] [kM 17 6,sd 18 (.cmp .geq 17 (ki 0))]) z97_11
def z97_14:LC:=.seq (.stm [0,5,6] [kM 21 5,kM 22 6,kM 23 0,sd 24 (.conv .u8 true 23),sd 25 (.ixS 1 21 22),sn (.store 1 25 24)]) (.stm [0,5,6] [kM 26 0,sd 27 (.ari .shr false 26 (.c (.int .u64 8))),kM 0 27])
def z97_13:LC:=.block 1 z97_14
def z97_12:LC:=.seq z97_13 (.stm [0,5,6] [kM 19 6,sd 20 (.sub 19 (ki 1)),kM 6 20])
def z97_9:LC:=.seq z97_10 z97_12
def z97_8:LC:=.loop z97_9
def z97_7:LC:=.block 0 z97_8
def z97_6:LC:=.seq (.stm [0,5,6] [kM 15 1,sd 16 (.sub 15 (ki 1)),kM 6 16]) z97_7
def z97_15:LC:=.seq (.stm [4] [kM 28 5,kM 4 28]) .ret
def z97_5:LC:=.seq z97_6 z97_15
def z97_4:LC:=.seq (.stm [0,1,5] [kM 13 1,sd 14 (.mksl (.int .u8) 1 13 13),kM 5 14]) z97_5
def z97_0:LC:=.seq z97_1 z97_4
def z97:LC:=.seq (.stm [0,1] [kM 4 kn]) z97_0
theorem jm9:jag Tryz.prog eqs0 162 z97 [.t 4] 29=true:=by kernel_rfl
def z98_2:LC:=.cond 14 (.stm [2,3,4] [kM 15 2,sd 16 (.ari .or false 15 (k8 1)),kM 2 16]) .skip
def z98_1:LC:=.seq (.stm [2,3,4,14] [kF 13 4 5,kL 14 1 13]) z98_2
def z98_5:LC:=.cond 21 (.stm [2,3,4] [kM 22 2,sd 23 (.ari .or false 22 (k8 2)),kM 2 23]) .skip
def z98_4:LC:=.seq (.stm [2,3,4,21] [kF 17 4 7,kL 18 1 17,kF 19 3 7,kL 20 1 19,sd 21 (.cmp .neq 18 20)]) z98_5
def z98_9:LC:=.cond 40 (.reg [3,4,7] [kR 0 41 (.mov 7),kR 1 42 (.fa 4 7),kR 2 43 (.ld 1 42),kR 3 44 (.len true 43),kR 4 45 (.conv .u8 true 44),kR 7 48 (.fa 4 7),kR 8 49 (.ld 1 48),kR 5 46 (.bslice (.int .u8) [45]),⟨6,some 47,none,.app (.int .u8) 41 46,true,true⟩,⟨9,some 50,none,.app (.int .u8) 47 49,false,true⟩,kR 10 7 (.mov 50)]) .skip
def z98_8:LC:=.seq (.stm [3,4,7,40] [kM 38 2,sd 39 (.ari .and false 38 (k8 2)),sd 40 (.cmp .neq 39 (k8 0))]) z98_9
def z98_18:LC:=.cond 59 .skip (.exit 0)
def z98_25:LC:=.cond 86 (.exit 1) .skip
def z98_24:LC:=.seq (.stm [3,4,7,8,9,10,57,58,86] [kM 73 10,kF 74 3 2,kL 75 1 74,kM 76 9,kF 77 4 0,kL 78 1 77,sd 79 (.ari .mul false 76 78),kM 80 9,sd 81 (.add 80 (ki 1)),kF 82 4 0,kL 83 1 82,sd 84 (.ari .mul false 81 83),sd 85 (.sl false 6 75 (some 79) (some 84) none),sd 86 (.call 161 [73,85])]) z98_25
def z98_33:LC:=.cond 101 .skip (.exit 2)
def z98_36:LC:=.seq (.stm [3,4,7,8,12,57,58,98,99,100] [sd 102 (.ixS 6 98 100),sd 103 (.load true 6 102),sd 12 (.zero [.int .i32 0,.int .u8 0,.int .u32 0,.int .u32 0,.int .u8 0,.int .u16 0]),sn (.store 6 12 103)]) (.reg [3,4,7,8,57,58,98,99,100] [kR 0 104 (.mov 7),kR 1 105 (.fa 12 0),kR 2 106 (.ld 1 105),kR 3 107 (.conv .u64 true 106),kR 6 110 (.fa 12 2),kR 7 111 (.fa 110 0),kR 8 112 (.ld 1 111),kR 9 113 (.conv .u64 false 112),kR 12 116 (.fa 12 2),kR 13 117 (.fa 116 1),kR 14 118 (.ld 1 117),kR 15 119 (.conv .u64 false 118),kR 18 122 (.fa 12 2),kR 19 123 (.fa 122 2),kR 20 124 (.ld 1 123),⟨4,some 108,none,.call 162 [107,(ki 4)],true,false⟩,⟨5,some 109,none,.app (.int .u8) 104 108,true,false⟩,⟨10,some 114,none,.call 162 [113,(ki 2)],true,false⟩,⟨11,some 115,none,.app (.int .u8) 109 114,true,false⟩,⟨16,some 120,none,.call 162 [119,(ki 2)],true,false⟩,⟨17,some 121,none,.app (.int .u8) 115 120,true,false⟩,kR 21 125 (.bslice (.int .u8) [124]),⟨22,some 126,none,.app (.int .u8) 121 125,false,true⟩,kR 23 7 (.mov 126)])
def z98_35:LC:=.block 3 z98_36
def z98_34:LC:=.seq z98_35 (.stm [3,4,7,8,57,58,98,99,100] [sd 127 (.add 100 (ki 1)),kM 100 127])
def z98_32:LC:=.seq z98_33 z98_34
def z98_31:LC:=.seq (.stm [3,4,7,8,57,58,98,99,100,101] [sd 101 (.lt 100 99)]) z98_32
def z98_30:LC:=.loop z98_31
def z98_29:LC:=.block 2 z98_30
def z98_28:LC:=.seq (.stm [3,4,7,8,57,58,98,99,100] [kM 98 10,sd 99 (.len false 98),kM 100 (ki 0)]) z98_29
def z98_27:LC:=.seq (.stm [3,4,7,8,10,57,58] [kM 93 7,kM 94 9,sd 95 (.conv .u8 true 94),sd 96 (.bslice (.int .u8) [95]),sd 97 (.app (.int .u8) 93 96),kM 7 97]) z98_28
def z98_26:LC:=.seq (.stm [3,4,7,8,9,10,57,58] [kM 87 7,kM 88 8,sd 89 (.ixS 1 87 88),kL 90 1 89,sd 91 (.ari .add true 90 (k8 1)),sd 92 (.ixS 1 87 88),sn (.store 1 92 91)]) z98_27
def z98_23:LC:=.seq z98_24 z98_26
def z98_22:LC:=.seq (.stm [3,4,7,8,9,10,57,58] [kF 61 4 2,kL 62 1 61,kM 63 9,kF 64 4 0,kL 65 1 64,sd 66 (.ari .mul false 63 65),kM 67 9,sd 68 (.add 67 (ki 1)),kF 69 4 0,kL 70 1 69,sd 71 (.ari .mul false 68 70),sd 72 (.sl false 6 62 (some 66) (some 71) none),kM 10 72]) z98_23
def z98_21:LC:=.seq (.stm [3,4,7,8,9,57,58] [kM 60 58,kM 9 60]) z98_22
def z98_20:LC:=.block 1 z98_21
def z98_19:LC:=.seq z98_20 (.stm [3,4,7,8,57,58] [sd 128 (.add 58 (ki 1)),kM 58 128])
def z98_17:LC:=.seq z98_18 z98_19
def z98_16:LC:=.seq (.stm [3,4,7,8,57,58,59] [sd 59 (.lt 58 57)]) z98_17
def z98_15:LC:=.loop z98_16
def z98_14:LC:=.block 0 z98_15
def z98_13:LC:=.seq (.stm [3,4,7,8,57,58] [kF 56 4 1,kL 57 1 56,kM 58 (ki 0)]) z98_14
def z98_37:LC:=.seq (.stm [6] [kM 129 7,kM 6 129]) .ret
def z98_12:LC:=.seq z98_13 z98_37
def z98_11:LC:=.seq (.stm [3,4,7,8] [kM 53 7,sd 54 (.bslice (.int .u8) [(k8 0)]),sd 55 (.app (.int .u8) 53 54),kM 7 55]) z98_12
def z98_10:LC:=.seq (.stm [3,4,7,8] [kM 51 7,sd 52 (.len false 51),kM 8 52]) z98_11
def z98_7:LC:=.seq z98_8 z98_10
def z98_6:LC:=.seq (.stm [2,3,4,7] [kF 24 4 0,kL 25 1 24,sd 26 (.conv .u8 true 25),kF 27 4 1,kL 28 1 27,sd 29 (.conv .u8 true 28),kF 30 4 3,kL 31 1 30,sd 32 (.conv .u8 true 31),kF 33 4 4,kL 34 1 33,sd 35 (.conv .u8 true 34),kM 36 2,sd 37 (.bslice (.int .u8) [26,29,32,35,36]),kM 7 37]) z98_7
def z98_3:LC:=.seq z98_4 z98_6
def z98_0:LC:=.seq z98_1 z98_3
def z98:LC:=.seq (.stm [2,3,4] [sd 3 (.box 0),sd 4 (.box 1),kM 6 kn]) z98_0
theorem jna:jag Tryz.prog eqs0 135 z98 [.t 6] 130=true:=by kernel_rfl
def z99_4:LC:=.seq (.stm [4,5] [kM 4 kn,kM 5 (ki 1)]) .ret
def z99_7:LC:=.seq (.stm [4,5] [sd 28 (.load true 9 3),sd 29 (.call 100 [28]),sd 30 (.ext 29 0),sd 31 (.ext 29 1),kM 4 30,kM 5 31]) .ret
def z99_6:LC:=.cond 15 z99_7 .skip
def z99_5:LC:=.seq (.stm [2,3,15] [kF 16 2 0,kL 17 1 16,kF 18 3 0,kL 19 1 18,sd 20 (.cmp .neq 17 19),kM 21 20,.g 21 false [kF 22 2 1,kL 23 1 22,kF 24 3 1,kL 25 1 24,sd 26 (.cmp .neq 23 25)] 27 kt 26,kM 15 27]) z99_6
def z99_3:LC:=.cond 6 z99_4 z99_5
def z99_2:LC:=.seq (.stm [2,3,6] [sd 7 (.load true 9 2),sd 8 (.call 98 [7]),sd 9 (.un .not 8),kM 10 9,.g 10 false [sd 11 (.load true 9 3),sd 12 (.call 98 [11]),sd 13 (.un .not 12)] 14 kt 13,kM 6 14]) z99_3
def z99_1:LC:=.block 0 z99_2
def z99_8:LC:=.seq (.stm [4,5] [sd 32 (.load true 9 2),sd 33 (.load true 9 3),sd 34 (.call 135 [32,33,(k8 0)]),kM 4 34,kM 5 (ki 0)]) .ret
def z99_0:LC:=.seq z99_1 z99_8
def z99:LC:=.seq (.stm [2,3] [sd 2 (.box 0),sd 3 (.box 1),kM 4 kn,kM 5 (ki 0)]) z99_0
theorem jjk:jag Tryz.prog eqs0 99 z99 [.t 4,.t 5] 35=true:=by kernel_rfl
def z100_3:LC:=.seq (.stm [2,3] [kM 2 kn,kM 3 (ki 1)]) .ret
def z100_2:LC:=.cond 8 z100_3 .skip
def z100_1:LC:=.seq (.stm [1,8] [sd 6 (.load true 9 1),sd 7 (.call 98 [6]),sd 8 (.un .not 7)]) z100_2
def z100_5:LC:=.seq (.stm [2,3] [sd 17 (.load true 9 4),sd 18 (.load true 9 1),sd 19 (.call 135 [17,18,(k8 4)]),kM 2 19,kM 3 (ki 0)]) .ret
def z100_4:LC:=.seq (.stm [1,4] [kF 10 1 0,kL 11 1 10,kF 12 1 1,kL 13 1 12,sd 14 (.call 136 [11,13]),kM 9 14,sd 15 (.ext 9 0),sd 16 (.ext 9 1),sd 4 (.zero [.int .i64 0,.int .i64 0,.nils,.int .i64 0,.int .i64 0,.bool false,.int .u8 0,.str (bs []),.nils]),sn (.store 9 4 15),kM 5 16]) z100_5
def z100_0:LC:=.seq z100_1 z100_4
def z100:LC:=.seq (.stm [1] [sd 1 (.box 0),kM 2 kn,kM 3 (ki 0)]) z100_0
theorem jlr:jag Tryz.prog eqs0 100 z100 [.t 2,.t 3] 20=true:=by kernel_rfl
end
end Go.Proofs.YtienkkicehmchaaGreatDoor
