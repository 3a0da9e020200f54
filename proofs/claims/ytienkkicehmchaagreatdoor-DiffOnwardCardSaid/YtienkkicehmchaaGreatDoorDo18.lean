/- Texts of this claim, merged by a program of this claim: KRows, KBlank, FTerm, BlankM, KRdif. -/
import Derived.Test.YtienkkicehmchaaGreatDoorDo13
import Derived.Test.YtienkkicehmchaaGreatDoorDo15
import Derived.Test.YtienkkicehmchaaGreatDoorDo16
import Derived.Test.YtienkkicehmchaaGreatDoorDo5
import Derived.Test.YtienkkicehmchaaGreatDoorDo6
namespace Go.Proofs.YtienkkicehmchaaGreatDoor
open And renaming intro→qaa
open List renaming replicate→qab,cons_append→qae,replicate_succ'→qaf,eq_of_mem_replicate→qag,map_cons→qah,nil_append→qai,range→qak,take→qal
open Cos renaming intro→qac
open Nat renaming add_sub_cancel→qad,mul_le_mul→qaj
noncomputable section
set_option linter.unusedVariables false
set_option linter.unusedSimpArgs false
section
open Go.RowKit
set_option maxRecDepth 100000
def z82_1:LC:=.seq (.stm [0,1,12] [kM 7 1,sd 8 (.lt 7 (ki 1)),kM 9 8,.g 9 false [kM 10 1,sd 11 (.cmp .gtr 10 (ki 8))] 12 kt 11]) (.cond 12 (.seq (.stm [4] [kM 4 kn]) .ret) .skip)
def z82_10:LC:=.seq (.stm [0,5,6,18] [kM 17 6,sd 18 (.cmp .geq 17 (ki 0))]) (.cond 18 .skip (.exit 0))
def z82_14:LC:=.seq (.stm [0,5,6] [kM 21 5,kM 22 6,kM 23 0,sd 24 (.conv .u8 true 23),sd 25 (.ixS 1 21 22),sn (.store 1 25 24)]) (.stm [0,5,6] [kM 26 0,sd 27 (.ari .shr false 26 (.c (.int .u64 8))),kM 0 27])
def z82_12:LC:=.seq (.block 1 z82_14) (.stm [0,5,6] [kM 19 6,sd 20 (.sub 19 (ki 1)),kM 6 20])
def z82_8:LC:=.loop (.seq z82_10 z82_12)
def z82_6:LC:=.seq (.stm [0,5,6] [kM 15 1,sd 16 (.sub 15 (ki 1)),kM 6 16]) (.block 0 z82_8)
def z82_4:LC:=.seq (.stm [0,1,5] [kM 13 1,sd 14 (.mksl (.int .u8) 1 13 13),kM 5 14]) (.seq z82_6 (.seq (.stm [4] [kM 28 5,kM 4 28]) .ret))
def z82_0:LC:=.seq z82_1 z82_4
def z82:LC:=.seq (.stm [0,1] [kM 4 kn]) z82_0
theorem jlA:jad Tryz.prog eqs0 162 z82 [.t 4] 29=true:=by kernel_rfl
def z83_2:LC:=.cond 14 (.stm [2,3,4] [kM 15 2,sd 16 (.ari .or false 15 (k8 1)),kM 2 16]) .skip
def z83_1:LC:=.seq (.stm [2,3,4,14] [kF 13 4 5,kL 14 1 13]) z83_2
def z83_5:LC:=.cond 21 (.stm [2,3,4] [kM 22 2,sd 23 (.ari .or false 22 (k8 2)),kM 2 23]) .skip
def z83_4:LC:=.seq (.stm [2,3,4,21] [kF 17 4 7,kL 18 1 17,kF 19 3 7,kL 20 1 19,sd 21 (.cmp .neq 18 20)]) z83_5
def z83_9:LC:=.cond 40 (.reg [3,4,7] [kR 0 41 (.mov 7),kR 1 42 (.fa 4 7),kR 2 43 (.ld 1 42),kR 3 44 (.len true 43),kR 4 45 (.conv .u8 true 44),kR 7 48 (.fa 4 7),kR 8 49 (.ld 1 48),kR 5 46 (.bslice (.int .u8) [45]),⟨6,some 47,none,.app (.int .u8) 41 46,true,true⟩,⟨9,some 50,none,.app (.int .u8) 47 49,false,true⟩,kR 10 7 (.mov 50)]) .skip
def z83_8:LC:=.seq (.stm [3,4,7,40] [kM 38 2,sd 39 (.ari .and false 38 (k8 2)),sd 40 (.cmp .neq 39 (k8 0))]) z83_9
def z83_24:LC:=.seq (.stm [3,4,7,8,9,10,57,58,86] [kM 73 10,kF 74 3 2,kL 75 1 74,kM 76 9,kF 77 4 0,kL 78 1 77,sd 79 (.ari .mul false 76 78),kM 80 9,sd 81 (.add 80 (ki 1)),kF 82 4 0,kL 83 1 82,sd 84 (.ari .mul false 81 83),sd 85 (.sl false 6 75 (some 79) (some 84) none),sd 86 (.call 161 [73,85])]) (.cond 86 (.exit 1) .skip)
def z83_36:LC:=.seq (.stm [3,4,7,8,12,57,58,98,99,100] [sd 102 (.ixS 6 98 100),sd 103 (.load true 6 102),sd 12 (.zero [.int .i32 0,.int .u8 0,.int .u32 0,.int .u32 0,.int .u8 0,.int .u16 0]),sn (.store 6 12 103)]) (.reg [3,4,7,8,57,58,98,99,100] [kR 0 104 (.mov 7),kR 1 105 (.fa 12 0),kR 2 106 (.ld 1 105),kR 3 107 (.conv .u64 true 106),kR 6 110 (.fa 12 2),kR 7 111 (.fa 110 0),kR 8 112 (.ld 1 111),kR 9 113 (.conv .u64 false 112),kR 12 116 (.fa 12 2),kR 13 117 (.fa 116 1),kR 14 118 (.ld 1 117),kR 15 119 (.conv .u64 false 118),kR 18 122 (.fa 12 2),kR 19 123 (.fa 122 2),kR 20 124 (.ld 1 123),⟨4,some 108,none,.call 162 [107,(ki 4)],true,false⟩,⟨5,some 109,none,.app (.int .u8) 104 108,true,false⟩,⟨10,some 114,none,.call 162 [113,(ki 2)],true,false⟩,⟨11,some 115,none,.app (.int .u8) 109 114,true,false⟩,⟨16,some 120,none,.call 162 [119,(ki 2)],true,false⟩,⟨17,some 121,none,.app (.int .u8) 115 120,true,false⟩,kR 21 125 (.bslice (.int .u8) [124]),⟨22,some 126,none,.app (.int .u8) 121 125,false,true⟩,kR 23 7 (.mov 126)])
def z83_34:LC:=.seq (.block 3 z83_36) (.stm [3,4,7,8,57,58,98,99,100] [sd 127 (.add 100 (ki 1)),kM 100 127])
def z83_31:LC:=.seq (.stm [3,4,7,8,57,58,98,99,100,101] [sd 101 (.lt 100 99)]) (.seq (.cond 101 .skip (.exit 2)) z83_34)
def z83_30:LC:=.loop z83_31
def z83_28:LC:=.seq (.stm [3,4,7,8,57,58,98,99,100] [kM 98 10,sd 99 (.len false 98),kM 100 (ki 0)]) (.block 2 z83_30)
def z83_27:LC:=.seq (.stm [3,4,7,8,10,57,58] [kM 93 7,kM 94 9,sd 95 (.conv .u8 true 94),sd 96 (.bslice (.int .u8) [95]),sd 97 (.app (.int .u8) 93 96),kM 7 97]) z83_28
def z83_26:LC:=.seq (.stm [3,4,7,8,9,10,57,58] [kM 87 7,kM 88 8,sd 89 (.ixS 1 87 88),kL 90 1 89,sd 91 (.ari .add true 90 (k8 1)),sd 92 (.ixS 1 87 88),sn (.store 1 92 91)]) z83_27
def z83_22:LC:=.seq (.stm [3,4,7,8,9,10,57,58] [kF 61 4 2,kL 62 1 61,kM 63 9,kF 64 4 0,kL 65 1 64,sd 66 (.ari .mul false 63 65),kM 67 9,sd 68 (.add 67 (ki 1)),kF 69 4 0,kL 70 1 69,sd 71 (.ari .mul false 68 70),sd 72 (.sl false 6 62 (some 66) (some 71) none),kM 10 72]) (.seq z83_24 z83_26)
def z83_21:LC:=.seq (.stm [3,4,7,8,9,57,58] [kM 60 58,kM 9 60]) z83_22
def z83_19:LC:=.seq (.block 1 z83_21) (.stm [3,4,7,8,57,58] [sd 128 (.add 58 (ki 1)),kM 58 128])
def z83_16:LC:=.seq (.stm [3,4,7,8,57,58,59] [sd 59 (.lt 58 57)]) (.seq (.cond 59 .skip (.exit 0)) z83_19)
def z83_15:LC:=.loop z83_16
def z83_13:LC:=.seq (.stm [3,4,7,8,57,58] [kF 56 4 1,kL 57 1 56,kM 58 (ki 0)]) (.block 0 z83_15)
def z83_11:LC:=.seq (.stm [3,4,7,8] [kM 53 7,sd 54 (.bslice (.int .u8) [(k8 0)]),sd 55 (.app (.int .u8) 53 54),kM 7 55]) (.seq z83_13 (.seq (.stm [6] [kM 129 7,kM 6 129]) .ret))
def z83_10:LC:=.seq (.stm [3,4,7,8] [kM 51 7,sd 52 (.len false 51),kM 8 52]) z83_11
def z83_6:LC:=.seq (.stm [2,3,4,7] [kF 24 4 0,kL 25 1 24,sd 26 (.conv .u8 true 25),kF 27 4 1,kL 28 1 27,sd 29 (.conv .u8 true 28),kF 30 4 3,kL 31 1 30,sd 32 (.conv .u8 true 31),kF 33 4 4,kL 34 1 33,sd 35 (.conv .u8 true 34),kM 36 2,sd 37 (.bslice (.int .u8) [26,29,32,35,36]),kM 7 37]) (.seq z83_8 z83_10)
def z83_0:LC:=.seq z83_1 (.seq z83_4 z83_6)
def z83:LC:=.seq (.stm [2,3,4] [sd 3 (.box 0),sd 4 (.box 1),kM 6 kn]) z83_0
theorem jid:jad Tryz.prog eqs0 135 z83 [.t 6] 130=true:=by kernel_rfl
def z84_7:LC:=.seq (.stm [4,5] [sd 28 (.load true 9 3),sd 29 (.call 100 [28]),sd 30 (.ext 29 0),sd 31 (.ext 29 1),kM 4 30,kM 5 31]) .ret
def z84_5:LC:=.seq (.stm [2,3,15] [kF 16 2 0,kL 17 1 16,kF 18 3 0,kL 19 1 18,sd 20 (.cmp .neq 17 19),kM 21 20,.g 21 false [kF 22 2 1,kL 23 1 22,kF 24 3 1,kL 25 1 24,sd 26 (.cmp .neq 23 25)] 27 kt 26,kM 15 27]) (.cond 15 z84_7 .skip)
def z84_3:LC:=.cond 6 (.seq (.stm [4,5] [kM 4 kn,kM 5 (ki 1)]) .ret) z84_5
def z84_2:LC:=.seq (.stm [2,3,6] [sd 7 (.load true 9 2),sd 8 (.call 98 [7]),sd 9 (.un .not 8),kM 10 9,.g 10 false [sd 11 (.load true 9 3),sd 12 (.call 98 [11]),sd 13 (.un .not 12)] 14 kt 13,kM 6 14]) z84_3
def z84_8:LC:=.seq (.stm [4,5] [sd 32 (.load true 9 2),sd 33 (.load true 9 3),sd 34 (.call 135 [32,33,(k8 0)]),kM 4 34,kM 5 (ki 0)]) .ret
def z84_0:LC:=.seq (.block 0 z84_2) z84_8
def z84:LC:=.seq (.stm [2,3] [sd 2 (.box 0),sd 3 (.box 1),kM 4 kn,kM 5 (ki 0)]) z84_0
theorem jhF:jad Tryz.prog eqs0 99 z84 [.t 4,.t 5] 35=true:=by kernel_rfl
def z85_2:LC:=.cond 8 (.seq (.stm [2,3] [kM 2 kn,kM 3 (ki 1)]) .ret) .skip
def z85_1:LC:=.seq (.stm [1,8] [sd 6 (.load true 9 1),sd 7 (.call 98 [6]),sd 8 (.un .not 7)]) z85_2
def z85_5:LC:=.seq (.stm [2,3] [sd 17 (.load true 9 4),sd 18 (.load true 9 1),sd 19 (.call 135 [17,18,(k8 4)]),kM 2 19,kM 3 (ki 0)]) .ret
def z85_4:LC:=.seq (.stm [1,4] [kF 10 1 0,kL 11 1 10,kF 12 1 1,kL 13 1 12,sd 14 (.call 136 [11,13]),kM 9 14,sd 15 (.ext 9 0),sd 16 (.ext 9 1),sd 4 (.zero [.int .i64 0,.int .i64 0,.nils,.int .i64 0,.int .i64 0,.bool false,.int .u8 0,.str (bs []),.nils]),sn (.store 9 4 15),kM 5 16]) z85_5
def z85_0:LC:=.seq z85_1 z85_4
def z85:LC:=.seq (.stm [1] [sd 1 (.box 0),kM 2 kn,kM 3 (ki 0)]) z85_0
theorem jgM:jad Tryz.prog eqs0 100 z85 [.t 2,.t 3] 20=true:=by kernel_rfl
end
section
open Go.RowKit
set_option maxRecDepth 100000
def z86_0:LC:=.seq (.stm [0] [sd 1 (.build [.int .i64 0,.int .i32 0,.int .u8 0,.int .u8 0] []),sd 2 (.box 1),kM 0 2]) .ret
def z86:LC:=.seq (.stm [] [kM 0 (.c .nilptr)]) z86_0
theorem jn6:jad Tryz.prog eqs0 204 z86 [.t 0] 3=true:=by kernel_rfl
def z87_0:LC:=.seq (.stm [0] [sd 1 (.call 204 []),sd 2 (.build [.nilptr,.int .i64 0,.bool false,.int .u8 0,.bool false,.nils,.nils,.bool false] [(0,1,1)]),sd 3 (.box 2),kM 0 3]) .ret
def z87:LC:=.seq (.stm [] [kM 0 (.c .nilptr)]) z87_0
theorem jkk:jad Tryz.prog eqs0 190 z87 [.t 0] 4=true:=by kernel_rfl
def z88_8:LC:=.seq (.stm [0,2,14] [kM 16 14,kM 2 16]) (.stm [0,14] [kM 17 0,kM 18 2,kM 19 2,sd 20 (.ari .rem false 19 (ki 8)),sd 21 (.eq 20 (ki 0)),kM 22 21,.g 22 true [kM 23 2,sd 24 (.cmp .gtr 23 (ki 0))] 25 24 kf,sd 26 (.nilck 17),kF 27 26 23,sd 28 (.ixA 80 1 27 18),sn (.store 1 28 25)])
def z88_6:LC:=.seq (.block 1 z88_8) (.stm [0,14] [sd 29 (.add 14 (ki 1)),kM 14 29])
def z88_3:LC:=.seq (.stm [0,14,15] [sd 15 (.lt 14 (ki 80))]) (.seq (.cond 15 .skip (.exit 0)) z88_6)
def z88_2:LC:=.loop z88_3
def z88_0:LC:=.seq (.stm [0,14] [kM 14 (ki 0)]) (.block 0 z88_2)
def z88:LC:=.seq (.stm [0] [kM 3 0,kM 4 0,kM 5 0,sd 6 (.nilck 5),kF 7 6 8,kL 8 1 7,sd 9 (.sub 8 (ki 1)),sd 10 (.nilck 3),kF 11 10 17,sn (.store 1 11 (ki 0)),sd 12 (.nilck 4),kF 13 12 18,sn (.store 1 13 9)]) z88_0
theorem jex:jad Tryz.prog eqs0 191 z88 [] 30=true:=by kernel_rfl
def z89_4:LC:=.seq (.stm [4,5] [kM 19 7,kM 4 (.c .nilptr),kM 5 19]) .ret
def z89_2:LC:=.seq (.stm [0,1,6,7,18] [kM 17 7,sd 18 (.cmp .neq 17 (ki 0))]) (.cond 18 z89_4 .skip)
def z89_7:LC:=.seq (.stm [10] [kM 34 10,sd 35 (.call 191 [34])]) (.seq (.stm [4,5] [kM 36 10,kM 4 36,kM 5 (ki 0)]) .ret)
def z89_6:LC:=.seq (.reg [10] [kR 0 26 (.mov 0),kR 1 27 (.mov 1),kR 2 28 (.load true 3 6),kR 3 29 (.load true 3 8),kR 4 30 (.build [.int .i64 0,.int .i64 0,.nils,.int .i64 0,.int .i64 0,.nils] [(0,3,28),(3,3,29)]),⟨5,some 31,none,.call 190 [],true,true⟩,kR 6 32 (.build ([.int .i64 0,.int .i64 0,.int .u32 0,.int .u32 0,.int .u8 0,.int .u16 0,.bool false,.int .i64 0,.int .i64 0,.int .i64 0,.int .i64 0,.nils,.int .i64 0,.int .i64 0,.nils,.int .i64 0,.bool false,.int .i64 0,.int .i64 0,.bool false,.bool false,.bool false,.int .u8 0]++qab 80 (.bool false)++[.int .i64 0,.int .i64 0,.int .u32 0,.int .u32 0,.int .u8 0,.int .u16 0,.bool false,.str (bs []),.nils,.int .i32 0,.nilptr]) [(7,1,26),(8,1,27),(9,6,30),(19,1,kt),(113,1,31)]),kR 7 33 (.box 32),kR 8 10 (.mov 33)]) z89_7
def z89_5:LC:=.seq (.stm [0,1,6,8] [kM 21 0,kM 22 1,sd 23 (.call 189 [21,22]),kM 20 23,sd 24 (.ext 20 0),sd 25 (.ext 20 1),sd 8 (.zero [.int .i64 0,.int .i64 0,.nils]),sn (.store 3 8 24),kM 9 25]) z89_6
def z89_0:LC:=.seq (.stm [0,1,6,7] [kM 12 0,kM 13 1,sd 14 (.call 189 [12,13]),kM 11 14,sd 15 (.ext 11 0),sd 16 (.ext 11 1),sd 6 (.zero [.int .i64 0,.int .i64 0,.nils]),sn (.store 3 6 15),kM 7 16]) (.seq z89_2 z89_5)
def z89:LC:=.seq (.stm [0,1] [kM 4 (.c .nilptr),kM 5 (ki 0)]) z89_0
theorem jfY:jad Tryz.prog eqs0 163 z89 [.t 4,.t 5] 37=true:=by kernel_rfl
def z90_0:LC:=.seq (.reg [2] [kR 0 3 (.mov 0),kR 1 4 (.mov 0),kR 2 5 (.nilck 4),kR 3 6 (.fa 5 15),kR 4 7 (.ld 1 6),kR 5 8 (.nilck 3),kR 6 9 (.fa 8 9),kR 7 10 (.ixA 2 3 9 7),kR 8 11 (.load true 3 10),⟨9,none,none,.store 3 2 11,false,true⟩]) .ret
def z90:LC:=.seq (.stm [0,2] [sd 2 (.zero [.int .i64 0,.int .i64 0,.nils])]) z90_0
theorem je8:jad Tryz.prog eqs0 193 z90 [.c 2 true 3] 12=true:=by kernel_rfl
def z91_3:LC:=.seq (.stm [2] [sd 7 (.build [.int .i64 0,.int .i64 0,.nils,.int .i64 0,.int .i64 0,.bool false,.int .u8 0,.str (bs []),.nils] []),sn (.store 9 2 7)]) .ret
def z91_1:LC:=.seq (.stm [0,2,6] [kM 5 0,sd 6 (.cmpN 0 false 5)]) (.cond 6 z91_3 .skip)
def z91_5:LC:=.seq (.reg [2] [kR 0 19 (.mov 0),kR 1 20 (.nilck 19),kR 2 21 (.fa 20 7),kR 3 22 (.ld 1 21),kR 4 23 (.mov 0),kR 5 24 (.nilck 23),kR 6 25 (.fa 24 8),kR 7 26 (.ld 1 25),kR 8 27 (.mov 3),kR 9 28 (.mov 0),kR 10 29 (.nilck 28),kR 11 30 (.fa 29 0),kR 12 31 (.fa 30 0),kR 13 32 (.ld 1 31),kR 14 33 (.mov 0),kR 15 34 (.nilck 33),kR 16 35 (.fa 34 0),kR 17 36 (.fa 35 1),kR 18 37 (.ld 1 36),kR 19 38 (.mov 0),kR 20 39 (.nilck 38),kR 21 40 (.fa 39 21),kR 22 41 (.ld 1 40),kR 23 42 (.mov 0),kR 24 43 (.nilck 42),kR 25 44 (.fa 43 22),kR 26 45 (.ld 1 44),kR 27 46 (.mov 0),kR 28 47 (.nilck 46),kR 29 48 (.fa 47 110),kR 30 49 (.ld 1 48),kR 31 50 (.mov 4),kR 32 51 (.build [.int .i64 0,.int .i64 0,.nils,.int .i64 0,.int .i64 0,.bool false,.int .u8 0,.str (bs []),.nils] [(0,1,22),(1,1,26),(2,1,27),(3,1,32),(4,1,37),(5,1,41),(6,1,45),(7,1,49),(8,1,50)]),⟨33,none,none,.store 9 2 51,false,true⟩]) .ret
def z91_4:LC:=.seq (.reg [0,2,3,4] [kR 0 9 (.mov 0),kR 3 12 (.mov 0),kR 4 13 (.nilck 12),kR 5 14 (.fa 13 111),kR 6 15 (.ld 1 14),⟨1,some 10,none,.call 193 [9],true,true⟩,kR 2 11 (.field 10 2 1 false),⟨7,some 16,none,.call 192 [11,15],false,true⟩,kR 8 8 (.mov 16),kR 9 17 (.ext 8 0),kR 10 18 (.ext 8 1),kR 11 3 (.mov 17),kR 12 4 (.mov 18)]) z91_5
def z91_0:LC:=.seq z91_1 z91_4
def z91:LC:=.seq (.stm [0,2] [sd 2 (.zero [.int .i64 0,.int .i64 0,.nils,.int .i64 0,.int .i64 0,.bool false,.int .u8 0,.str (bs []),.nils])]) z91_0
theorem jdT:jad Tryz.prog eqs0 164 z91 [.c 2 true 9] 52=true:=by kernel_rfl
def z92_4:LC:=.seq (.stm [4,5] [sd 16 (.build [.int .i64 0,.int .i64 0,.nils,.int .i64 0,.int .i64 0,.bool false,.int .u8 0,.str (bs []),.nils] []),kM 17 7,sn (.store 9 4 16),kM 5 17]) .ret
def z92_2:LC:=.seq (.stm [4,6,7,15] [kM 14 7,sd 15 (.cmp .neq 14 (ki 0))]) (.cond 15 z92_4 .skip)
def z92_5:LC:=.seq (.stm [4,5] [kM 18 6,sd 19 (.call 164 [18]),sn (.store 9 4 19),kM 5 (ki 0)]) .ret
def z92_0:LC:=.seq (.stm [4,6,7] [kM 9 0,kM 10 1,sd 11 (.call 163 [9,10]),kM 8 11,sd 12 (.ext 8 0),sd 13 (.ext 8 1),kM 6 12,kM 7 13]) (.seq z92_2 z92_5)
def z92:LC:=.seq (.stm [0,1,4] [sd 4 (.zero [.int .i64 0,.int .i64 0,.nils,.int .i64 0,.int .i64 0,.bool false,.int .u8 0,.str (bs []),.nils]),kM 5 (ki 0)]) z92_0
theorem jaT:jad Tryz.prog eqs0 136 z92 [.c 4 true 9,.t 5] 20=true:=by kernel_rfl
def z93_4:LC:=.seq (.stm [4,5] [sd 16 (.build [.int .i64 0,.int .i64 0,.nils,.int .i64 0,.int .i64 0,.bool false,.int .u8 0,.str (bs []),.nils] []),kM 17 7,sn (.store 9 4 16),kM 5 17]) .ret
def z93_2:LC:=.seq (.stm [0,1,4,6,7,15] [kM 14 7,sd 15 (.cmp .neq 14 (ki 0))]) (.cond 15 z93_4 .skip)
def z93_5:LC:=.seq (.stm [4,5] [kM 18 0,kM 19 1,kF 20 6 2,kL 21 1 20,sd 22 (.build [.int .i64 0,.int .i64 0,.nils,.int .i64 0,.int .i64 0,.bool false,.int .u8 0,.str (bs []),.nils] [(0,1,18),(1,1,19),(2,1,21)]),sn (.store 9 4 22),kM 5 (ki 0)]) .ret
def z93_0:LC:=.seq (.stm [0,1,4,6,7] [kM 9 0,kM 10 1,sd 11 (.call 45 [9,10]),kM 8 11,sd 12 (.ext 8 0),sd 13 (.ext 8 1),sd 6 (.zero [.int .i64 0,.int .i64 0,.nils]),sn (.store 3 6 12),kM 7 13]) (.seq z93_2 z93_5)
def z93:LC:=.seq (.stm [0,1,4] [sd 4 (.zero [.int .i64 0,.int .i64 0,.nils,.int .i64 0,.int .i64 0,.bool false,.int .u8 0,.str (bs []),.nils]),kM 5 (ki 0)]) z93_0
theorem jkl:jad Tryz.prog eqs0 23 z93 [.c 4 true 9,.t 5] 23=true:=by kernel_rfl
end
section
open Go.RowKit
set_option maxRecDepth 100000
set_option maxHeartbeats 4000000
def jcw (tb:List Bool):List CV:=(qak 80).map fun i=>.bool (tb.getD i false)
theorem jmP:qab 80 (CV.bool false)=jcw []:=rfl
theorem ja4 (tb:List Bool):(jcw tb).length=80:=by simp[jcw]
theorem jch (tb:List Bool) (n:Nat) (B:List CV):qal (n+80) (jcw tb++B)=jcw tb++qal n B:=by
 rw[List.take_append,ja4,List.take_of_length_le (by rw[ja4];omega),qad]
theorem jci (tb:List Bool) (n:Nat) (B:List CV):List.drop (n+80) (jcw tb++B)=List.drop n B:=by
 rw[List.drop_append,ja4,List.drop_of_length_le (by rw[ja4];omega),qad,qai]
theorem jc4 (tb:List Bool) (n:Nat) (B:List CV):(jcw tb++B)[n+80]?=B[n]?:=by
 rw[List.getElem?_append_right (by rw[ja4];omega),ja4,qad]
theorem jc5 (tb:List Bool) (n:Nat) (B:List CV) (v:CV):(jcw tb++B).set (n+80) v=jcw tb++B.set n v:=by
 rw[List.set_append_right _ _ (by rw[ja4];omega),ja4,qad]
theorem jqB (f:Nat→Bool):∀(l:List Nat) (B:List CV),jdv ((l.map fun i=>CV.bool (f i))++B)=jdv B
 | [],B=>rfl
 | a::l,B=>by
  simp only[qah,qae,jdv,jec,qai]
  exact jqB f l B
theorem jcj (tb:List Bool) (B:List CV):jdv (jcw tb++B)=jdv B:=jqB _ _ B
theorem juK (ρ:List Nat) (f:Nat→Bool):∀(l:List Nat) (B:List CV),locL ρ ((l.map fun i=>CV.bool (f i))++B)=(l.map fun i=>CV.bool (f i))++locL ρ B
 | [],B=>rfl
 | a::l,B=>by
  simp only[qah,qae,locL,locV]
  rw[juK ρ f l B]
theorem jc6 (ρ:List Nat) (tb:List Bool) (B:List CV):locL ρ (jcw tb++B)=jcw tb++locL ρ B:=juK ρ _ _ B
theorem juL (σ:Nat→Nat) (f:Nat→Bool):∀(l:List Nat) (B:List CV),renL σ ((l.map fun i=>CV.bool (f i))++B)=(l.map fun i=>CV.bool (f i))++renL σ B
 | [],B=>rfl
 | a::l,B=>by
  simp only[qah,qae,renL,renV]
  rw[juL σ f l B]
theorem jc7 (σ:Nat→Nat) (tb:List Bool) (B:List CV):renL σ (jcw tb++B)=jcw tb++renL σ B:=juL σ _ _ B
theorem juM (ρ fz:List Nat) (h:KH) (f:Nat→Bool):∀(l:List Nat) (A B:List CV),crsL ρ fz h ((l.map fun i=>CV.bool (f i))++A) ((l.map fun i=>CV.bool (f i))++B)=crsL ρ fz h A B
 | [],A,B=>rfl
 | a::l,A,B=>by
  simp only[qah,qae,crsL,crs,true_and]
  exact juM ρ fz h f l A B
theorem jc8 (ρ fz:List Nat) (h:KH) (tb:List Bool) (A B:List CV):crsL ρ fz h (jcw tb++A) (jcw tb++B)=crsL ρ fz h A B:=juM ρ fz h _ _ A B
def jqC (tb:List Bool) (i:Nat) (v:Bool):List Bool:=((qak 80).map fun j=>tb.getD j false).set i v
theorem jxe {tb:List Bool}{i:Nat}{v:Bool}{B:List CV}(h:i<80):(jcw tb++B).set i (.bool v)=jcw (jqC tb i v)++B:=by
 rw[List.set_append_left _ _ (by rw[ja4];exact h)]
 congr 1
 refine List.ext_getElem? fun j=>?_
 unfold jcw jqC
 rw[List.getElem?_set,List.getElem?_map,List.getElem?_map]
 by_cases hj:j<80
 ·rw[List.getElem?_range hj]
  simp only[Option.map_some,List.length_map,List.length_range,List.getD_eq_getElem?_getD,List.getElem?_set]
  by_cases e:i=j
  ·subst e
   simp[h]
  ·simp[e,hj]
 ·rw[List.getElem?_eq_none (show (qak 80).length≤j by simp;omega)]
  simp only[Option.map_none]
  rw[if_neg (by omega)]
def jey:Nat→List Bool
 | 0=>[]
 | i+1=>jqC (jey i) i (decide (i % 8=0)&&decide (0<i))
abbrev q_unew:QM:=(([],[]),True,.ret (.ptr 0 0 0),[.box [.int .i64 0,.int .i32 0,.int .u8 0,.int .u8 0]])
def msp_unew:=mspQ (u0 q_unew)
theorem jpq:W0 (hM msp_unew) q_unew:=w0 (aM rfl (fun _ _ _=>rfl))
theorem jzz:Mu 204 msp_unew:=ofM (u0 q_unew) fun _ hG=>tfi .nil 0 jn6 (by
 dsimp only[u0,q_unew]at hG ⊢
 have zc:=Hk.mk (qaa @jmP (qaa @ja4 (qaa @jch (qaa @jci (qaa @jc4 (qaa @jc5 (qaa @jcj (qaa @jc6 (qaa @jc7 @jc8)))))))))
 repeat' first|refine tU ?_|refine qac [0] [] rfl ?_|refine qaa ?_ ?_|(refine tI ?_;intro hyp)|intro hyp0|exact tZ|omega)
abbrev q_pnew:QM:=(([],[]),True,.ret (.ptr 0 0 0),[.box [.ptr 1 0 0,.int .i64 0,.bool false,.int .u8 0,.bool false,.nils,.nils,.bool false],.box [.int .i64 0,.int .i32 0,.int .u8 0,.int .u8 0]])
def msp_pnew:=mspQ (u0 q_pnew)
theorem jpr:W0 (hM msp_pnew) q_pnew:=w0 (aM rfl (fun _ _ _=>rfl))
theorem jzA:Mu 190 msp_pnew:=ofM (u0 q_pnew) fun _ hG=>tfi (.m jn6 jzz .nil) 0 jkk (by
 dsimp only[u0,q_pnew]at hG ⊢
 have zc:=Hk.mk (qaa @jpq (qaa @jmP (qaa @ja4 (qaa @jch (qaa @jci (qaa @jc4 (qaa @jc5 (qaa @jcj (qaa @jc6 (qaa @jc7 @jc8))))))))))
 repeat' first|refine tU ?_|refine qac [1,0] [] rfl ?_|refine qaa ?_ ?_|(refine tI ?_;intro hyp)|intro hyp0|exact tZ|omega)
abbrev q_frame (k r:Int) (L M:List CD):QM:=(([.ptr 0 0 0],[.box ((.int .i64 0)::(.int .i64 0)::(.int .u32 0)::(.int .u32 0)::(.int .u8 0)::(.int .u16 0)::(.bool false)::(.int .i64 k)::(.int .i64 r)::(.int .i64 k)::(.int .i64 r)::(.vec .cell L)::(.int .i64 k)::(.int .i64 r)::(.vec .cell M)::(.int .i64 0)::(.bool false)::(.int .i64 0)::(.int .i64 0)::(.bool true)::(.bool false)::(.bool false)::(.int .u8 0)::(jcw []++[.int .i64 0,.int .i64 0,.int .u32 0,.int .u32 0,.int .u8 0,.int .u16 0,.bool false,.str (bs []),.nils,.int .i32 0,.ptr 1 0 0])),.box [.ptr 2 0 0,.int .i64 0,.bool false,.int .u8 0,.bool false,.nils,.nils,.bool false],.box [.int .i64 0,.int .i32 0,.int .u8 0,.int .u8 0]]),1≤r∧r≤100,.ret .undef,[.box ((.int .i64 0)::(.int .i64 0)::(.int .u32 0)::(.int .u32 0)::(.int .u8 0)::(.int .u16 0)::(.bool false)::(.int .i64 k)::(.int .i64 r)::(.int .i64 k)::(.int .i64 r)::(.vec .cell L)::(.int .i64 k)::(.int .i64 r)::(.vec .cell M)::(.int .i64 0)::(.bool false)::(.int .i64 0)::(.int .i64 (r-1))::(.bool true)::(.bool false)::(.bool false)::(.int .u8 0)::(jcw (jey 80)++[.int .i64 0,.int .i64 0,.int .u32 0,.int .u32 0,.int .u8 0,.int .u16 0,.bool false,.str (bs []),.nils,.int .i32 0,.ptr 1 0 0])),.box [.ptr 2 0 0,.int .i64 0,.bool false,.int .u8 0,.bool false,.nils,.nils,.bool false],.box [.int .i64 0,.int .i32 0,.int .u8 0,.int .u8 0]])
def msp_frame:=mspQ (u4 q_frame)
theorem jn7:W4 (hM msp_frame) q_frame:=w4 (aM rfl)
theorem jxf:Mu 191 msp_frame:=ofM (u4 q_frame) fun⟨k,r,L,M⟩ hG=>tfi .nil 3 jex (by
 dsimp only[u4,q_frame]at hG ⊢
 have zc:=Hk.mk (qaa @jmP (qaa @ja4 (qaa @jch (qaa @jci (qaa @jc4 (qaa @jc5 (qaa @jcj (qaa @jc6 (qaa @jc7 @jc8)))))))))
 have hr:=hG
 repeat' first|refine tU ?_|refine qaa ?_ ?_|(refine tI ?_;intro hyp)|intro hyp0|exact tZ|omega
 refine T.loop (fun i:Nat=>⟨[(0,.ptr 0 0 0),(14,.int .i64 i)],[.box ((.int .i64 0)::(.int .i64 0)::(.int .u32 0)::(.int .u32 0)::(.int .u8 0)::(.int .u16 0)::(.bool false)::(.int .i64 k)::(.int .i64 r)::(.int .i64 k)::(.int .i64 r)::(.vec .cell L)::(.int .i64 k)::(.int .i64 r)::(.vec .cell M)::(.int .i64 0)::(.bool false)::(.int .i64 0)::(.int .i64 (r-1))::(.bool true)::(.bool false)::(.bool false)::(.int .u8 0)::(jcw (jey i)++[.int .i64 0,.int .i64 0,.int .u32 0,.int .u32 0,.int .u8 0,.int .u16 0,.bool false,.str (bs []),.nils,.int .i32 0,.ptr 1 0 0])),.box [.ptr 2 0 0,.int .i64 0,.bool false,.int .u8 0,.bool false,.nils,.nils,.bool false],.box [.int .i64 0,.int .i32 0,.int .u8 0,.int .u8 0]]⟩) (fun i=>i≤80) (fun i=>80-i) 0 (by omega) (qac [0,1,2] [] rfl (by simp only[jey];exact tF)) (fun i hi=>?_)
 by_cases hi80:i<80
 ·have hw:=fun B=>jxe (tb:=jey i) (v:=decide ((i:Int) % 8=0)&&decide (0<(i:Int))) (B:=B) hi80
  have hw2:23+i*1=i+23:=by omega
  have hw3:(i≤90)=True:=eq_true (by omega)
  have hts:jqC (jey i) i (decide ((i:Int) % 8=0)&&decide (0<(i:Int)))=jey (i+1):=by
   simp only[jey]
   congr 2<;>exact decide_eq_decide.2 (by omega)
  repeat' first|refine tU ?_|refine qaa ?_ ?_|(refine tI ?_;intro hyp)|intro hyp0|exact tZ|omega
  exact⟨i+1,by omega,by omega,qac [0,1,2] [] rfl (by rw[hts];exact tF)⟩
 ·obtain rfl:i=80:=by omega
  repeat' first|refine tU ?_|refine qac [0,1,2] [] rfl ?_|refine qaa ?_ ?_|(refine tI ?_;intro hyp)|intro hyp0|exact tZ|omega)
abbrev q_enew (k r:Int):QM:=(([.int .i64 k,.int .i64 r],[]),jbr k r=true,.ret (.tup [.ptr 0 0 0,.int .i64 0]),[.box ((.int .i64 0)::(.int .i64 0)::(.int .u32 0)::(.int .u32 0)::(.int .u8 0)::(.int .u16 0)::(.bool false)::(.int .i64 k)::(.int .i64 r)::(.int .i64 k)::(.int .i64 r)::(.vec .cell (qab (k.toNat*r.toNat) blank0))::(.int .i64 k)::(.int .i64 r)::(.vec .cell (qab (k.toNat*r.toNat) blank0))::(.int .i64 0)::(.bool false)::(.int .i64 0)::(.int .i64 (r-1))::(.bool true)::(.bool false)::(.bool false)::(.int .u8 0)::(jcw (jey 80)++[.int .i64 0,.int .i64 0,.int .u32 0,.int .u32 0,.int .u8 0,.int .u16 0,.bool false,.str (bs []),.nils,.int .i32 0,.ptr 1 0 0])),.box [.ptr 2 0 0,.int .i64 0,.bool false,.int .u8 0,.bool false,.nils,.nils,.bool false],.box [.int .i64 0,.int .i32 0,.int .u8 0,.int .u8 0]])
def msp_enew:=mspQ (u2 q_enew)
theorem jps:W2 (hM msp_enew) q_enew:=w2 (aM rfl)
theorem jzB:Mu 163 msp_enew:=ofM (u2 q_enew) fun⟨k,r⟩ hG=>tfi (.a [.any,.any] jh7 jtQ (.m jkk jzA (.m jex jxf .nil))) 0 jfY (by
 dsimp only[u2,q_enew]at hG ⊢
 have zc:=Hk.mk (qaa @jlm (qaa @jpr (qaa @jn7 (qaa @jmP (qaa @ja4 (qaa @jch (qaa @jci (qaa @jc4 (qaa @jc5 (qaa @jcj (qaa @jc6 (qaa @jc7 @jc8))))))))))))
 have hw:=hG
 have hf:=jcb.1 hG
 repeat' first|refine tU ?_|refine qaa ?_ ?_|(refine tI ?_;intro hyp)|intro hyp0|exact tZ|omega
 exact qac [4,2,3] [] rfl (by exact tF))
abbrev q_here (k r:Int) (L M:List CD):QM:=(([.ptr 0 0 0],[.box ((.int .i64 0)::(.int .i64 0)::(.int .u32 0)::(.int .u32 0)::(.int .u8 0)::(.int .u16 0)::(.bool false)::(.int .i64 k)::(.int .i64 r)::(.int .i64 k)::(.int .i64 r)::(.vec .cell L)::(.int .i64 k)::(.int .i64 r)::(.vec .cell M)::(.int .i64 0)::(.bool false)::(.int .i64 0)::(.int .i64 (r-1))::(.bool true)::(.bool false)::(.bool false)::(.int .u8 0)::(jcw (jey 80)++[.int .i64 0,.int .i64 0,.int .u32 0,.int .u32 0,.int .u8 0,.int .u16 0,.bool false,.str (bs []),.nils,.int .i32 0,.ptr 1 0 0])),.box [.ptr 2 0 0,.int .i64 0,.bool false,.int .u8 0,.bool false,.nils,.nils,.bool false],.box [.int .i64 0,.int .i32 0,.int .u8 0,.int .u8 0]]),True,.ret (.agg [.int .i64 k,.int .i64 r,.vec .cell L]),[.box ((.int .i64 0)::(.int .i64 0)::(.int .u32 0)::(.int .u32 0)::(.int .u8 0)::(.int .u16 0)::(.bool false)::(.int .i64 k)::(.int .i64 r)::(.int .i64 k)::(.int .i64 r)::(.vec .cell L)::(.int .i64 k)::(.int .i64 r)::(.vec .cell M)::(.int .i64 0)::(.bool false)::(.int .i64 0)::(.int .i64 (r-1))::(.bool true)::(.bool false)::(.bool false)::(.int .u8 0)::(jcw (jey 80)++[.int .i64 0,.int .i64 0,.int .u32 0,.int .u32 0,.int .u8 0,.int .u16 0,.bool false,.str (bs []),.nils,.int .i32 0,.ptr 1 0 0])),.box [.ptr 2 0 0,.int .i64 0,.bool false,.int .u8 0,.bool false,.nils,.nils,.bool false],.box [.int .i64 0,.int .i32 0,.int .u8 0,.int .u8 0]])
def msp_here:=mspQ (u4 q_here)
theorem jpt:W4 (hM msp_here) q_here:=w4 (aM rfl)
theorem jzC:Mu 193 msp_here:=ofM (u4 q_here) fun⟨k,r,L,M⟩ hG=>tfi .nil 3 je8 (by
 dsimp only[u4,q_here]at hG ⊢
 have zc:=Hk.mk (qaa @jmP (qaa @ja4 (qaa @jch (qaa @jci (qaa @jc4 (qaa @jc5 (qaa @jcj (qaa @jc6 (qaa @jc7 @jc8)))))))))
 repeat' first|refine tU ?_|refine qaa ?_ ?_|(refine tI ?_;intro hyp)|intro hyp0|exact tZ|omega
 exact qac [0,1,2] [] rfl (by exact tF))
abbrev q_tscreen (k r:Int) (L M:List CD):QM:=(([.ptr 0 0 0],[.box ((.int .i64 0)::(.int .i64 0)::(.int .u32 0)::(.int .u32 0)::(.int .u8 0)::(.int .u16 0)::(.bool false)::(.int .i64 k)::(.int .i64 r)::(.int .i64 k)::(.int .i64 r)::(.vec .cell L)::(.int .i64 k)::(.int .i64 r)::(.vec .cell M)::(.int .i64 0)::(.bool false)::(.int .i64 0)::(.int .i64 (r-1))::(.bool true)::(.bool false)::(.bool false)::(.int .u8 0)::(jcw (jey 80)++[.int .i64 0,.int .i64 0,.int .u32 0,.int .u32 0,.int .u8 0,.int .u16 0,.bool false,.str (bs []),.nils,.int .i32 0,.ptr 1 0 0])),.box [.ptr 2 0 0,.int .i64 0,.bool false,.int .u8 0,.bool false,.nils,.nils,.bool false],.box [.int .i64 0,.int .i32 0,.int .u8 0,.int .u8 0]]),L.length≤60000∧(∀c∈L,0≤c.link∧c.link<65536),.ret (.agg [.int .i64 k,.int .i64 r,.slice 3 0 6 L.length L.length,.int .i64 0,.int .i64 0,.bool false,.int .u8 0,.str (bs []),.slice 4 0 1 (jab [] L).length (jab [] L).length]),[.box ((.int .i64 0)::(.int .i64 0)::(.int .u32 0)::(.int .u32 0)::(.int .u8 0)::(.int .u16 0)::(.bool false)::(.int .i64 k)::(.int .i64 r)::(.int .i64 k)::(.int .i64 r)::(.vec .cell L)::(.int .i64 k)::(.int .i64 r)::(.vec .cell M)::(.int .i64 0)::(.bool false)::(.int .i64 0)::(.int .i64 (r-1))::(.bool true)::(.bool false)::(.bool false)::(.int .u8 0)::(jcw (jey 80)++[.int .i64 0,.int .i64 0,.int .u32 0,.int .u32 0,.int .u8 0,.int .u16 0,.bool false,.str (bs []),.nils,.int .i32 0,.ptr 1 0 0])),.box [.ptr 2 0 0,.int .i64 0,.bool false,.int .u8 0,.bool false,.nils,.nils,.bool false],.box [.int .i64 0,.int .i32 0,.int .u8 0,.int .u8 0],.seq .cell (L.map (jaH [] (jab [] L))),.seq .str (jab [] L)])
def msp_tscreen:=mspQ (u4 q_tscreen)
theorem jkT:W4 (hM msp_tscreen) q_tscreen:=w4 (aM rfl)
theorem jsd:Mu 164 msp_tscreen:=ofM (u4 q_tscreen) fun⟨k,r,L,M⟩ hG=>tfi (.m je8 jzC (.t [.sl .cell,.sl .str] jhs jul .nil)) 3 jdT (by
 dsimp only[u4,q_tscreen]at hG ⊢
 have zc:=Hk.mk (qaa @jpt (qaa @jnZ (qaa @jmP (qaa @ja4 (qaa @jch (qaa @jci (qaa @jc4 (qaa @jc5 (qaa @jcj (qaa @jc6 (qaa @jc7 @jc8)))))))))))
 obtain⟨hl,hc⟩:=hG
 repeat' first|exact hc|refine tU ?_|refine qaa ?_ ?_|(refine tI ?_;intro hyp)|intro hyp0|exact tZ|omega
 refine qac [0,1,2,4,5] [] rfl ?_
 simp only[PB,SAM,seval,rdB,Hk.out zc]
 simp)
theorem jxg (n:Nat):∀c∈qab n blank0,0≤c.link∧c.link<65536:=fun c hc=>by
 rw[qag hc]
 decide
abbrev q_pblank (k r:Int):QA:=([.int .i64 k,.int .i64 r],jbr k r=true,.ret (.tup [.agg [.int .i64 k,.int .i64 r,.vec .cell (qab (k.toNat*r.toNat) blank0),.int .i64 0,.int .i64 0,.bool false,.int .u8 0,.str (bs []),.vec .str []],.int .i64 0]))
def sp_pblank:=spQ (u2 q_pblank)
theorem jb3:W2 (hA sp_pblank) q_pblank:=w2 (aA rfl)
theorem jez:Fre 136 sp_pblank:=ofT (u2 q_pblank) fun⟨k,r⟩ hG=>tfi (.m jfY jzB (.m jdT jsd .nil)) 0 jaT (by
 dsimp only[u2,q_pblank]at hG ⊢
 have zc:=Hk.mk (qaa @jps (qaa @jkT (qaa @jmP (qaa @ja4 (qaa @jch (qaa @jci (qaa @jc4 (qaa @jc5 (qaa @jcj (qaa @jc6 (qaa @jc7 @jc8)))))))))))
 have hf:=jcb.1 hG
 have hkr:k.toNat*r.toNat≤80*24:=qaj (by omega) (by omega)
 have hw:=jpg [] (k.toNat*r.toNat)
 have hw2:=jj8 [] [] (k.toNat*r.toNat)
 repeat' first|exact hG|exact jxg _|refine tU ?_|refine qaa ?_ ?_|(refine tI ?_;intro hyp)|intro hyp0|exact tZ|omega
 exact qac [4,5] [] rfl (by exact tF))
abbrev q_rgnewT (k r:Int):QA:=([.int .i64 k,.int .i64 r],jbr k r=true,.ret (.tup [.agg [.int .i64 k,.int .i64 r,.vec .cell (qab (k.toNat*r.toNat) blank0)],.int .i64 0]))
def sp_rgnewT:=spQ (u2 q_rgnewT)
theorem jn8:W2 (hA sp_rgnewT) q_rgnewT:=w2 (aA rfl)
theorem juN:Fre 45 sp_rgnewT:=ofT (u2 q_rgnewT) fun⟨k,r⟩ hG=>tfi (.f [.any,.any] jix jrS (.t [.sl (.rows .cell)] jqi jzi .nil)) 0 jnE (by
 dsimp only[u2,q_rgnewT]at hG ⊢
 have zc:=Hk.mk (qaa @jmy (qaa @jrT (qaa @jmP (qaa @ja4 (qaa @jch (qaa @jci (qaa @jc4 (qaa @jc5 (qaa @jcj (qaa @jc6 (qaa @jc7 @jc8)))))))))))
 have hw:=hG
 have hfit:(1≤k∧k≤80)∧(1≤r∧r≤24):=by
  simp only[jbr,HB,ne_eq,reduceCtorEq]at hw
  omega
 obtain⟨n,rfl⟩:∃n:Nat,k=n:=⟨k.toNat,by omega⟩
 obtain⟨m,rfl⟩:∃m:Nat,r=m:=⟨r.toNat,by omega⟩
 repeat' first|refine tU ?_|refine qaa ?_ ?_|(refine tI ?_;intro hyp)|intro hyp0|exact tZ|omega
 refine T.loop (fun y:Nat=>⟨[(0,.int .i64 n),(1,.int .i64 m),(4,.ptr 0 0 0),(6,.slice 1 0 1 y y),(7,.int .i64 y)],[.box [.int .i64 0,.int .i64 0,.nils],.seq (.rows .cell) (qab y (qab n blank0))]⟩) (fun y=>y≤m) (fun y=>m-y) 0 (by omega) (qac [0,1] [] rfl (by simp only[PB,SAM,seval,rdB,Hk.out zc])) (fun y hy=>?_)
 have hw2:qal y (qab y (qab n blank0))=qab y (qab n blank0):=by simp
 have hw3:jdL { fg:=0,bg:=0,attrs:=0,link:=0 }=blank0:=rfl
 have hfl:(qab y (qab n blank0)).flatten=qab (n*y) blank0:=by rw[List.flatten_replicate_replicate,Nat.mul_comm]
 have hw4:(qab y (qab n blank0)).flatten.length=n*y:=by rw[hfl];simp
 have hp:n*y≤80*24:=qaj (by omega) (by omega)
 repeat' first|refine tU ?_|refine qaa ?_ ?_|(refine tI ?_;intro hyp)|intro hyp0|exact tZ|omega
 ·refine⟨y+1,by omega,by omega,qac [0,3] [] rfl ?_⟩
  have:qab (y+1) (qab n blank0)=qab y (qab n blank0)++[qab n blank0]:=qaf
  simp only[PB,SAM,seval,rdB,Hk.out zc,this]
  simp
 ·obtain rfl:y=m:=by omega
  have hl:((qab y (qab n blank0)).getLastD []).length=n:=by
   obtain⟨z,rfl⟩:∃z,y=z+1:=⟨y-1,by omega⟩
   rw[qaf,List.getLastD_concat]
   simp
  rw[hl,hfl]
  exact qac [2] [] rfl (by exact tF))
abbrev q_rblankT (k r:Int):QA:=([.int .i64 k,.int .i64 r],jbr k r=true,.ret (.tup [.agg [.int .i64 k,.int .i64 r,.vec .cell (qab (k.toNat*r.toNat) blank0),.int .i64 0,.int .i64 0,.bool false,.int .u8 0,.str (bs []),.vec .str []],.int .i64 0]))
def sp_rblankT:=spQ (u2 q_rblankT)
theorem jmQ:W2 (hA sp_rblankT) q_rblankT:=w2 (aA rfl)
theorem jse:Fre 23 sp_rblankT:=ofT (u2 q_rblankT) fun⟨k,r⟩ hG=>tfi (.t [.any,.any] jnE juN .nil) 0 jkl (by
 dsimp only[u2,q_rblankT]at hG ⊢
 have zc:=Hk.mk (qaa @jn8 (qaa @jmP (qaa @ja4 (qaa @jch (qaa @jci (qaa @jc4 (qaa @jc5 (qaa @jcj (qaa @jc6 (qaa @jc7 @jc8))))))))))
 repeat' first|exact hG|refine tU ?_|refine qaa ?_ ?_|(refine tI ?_;intro hyp)|intro hyp0|exact tZ|omega
 exact qac [1,99] [] rfl (by simp only[PB,SAM,seval,rdB,Hk.out zc];simp[crs,crsL,jaM]))
end
section
open Go.RowKit
theorem jn9:∀n,jeh 0 (qab n blank0)=some 0
 | 0=>rfl
 | n+1=>by
  rw[qaf,jb0,jn9 n]
  rfl
theorem jpu:jfr (bs [])=true:=by decide +kernel
theorem jgN {k r:Nat}(hk:1≤k∧k≤80) (hr:1≤r∧r≤24):jal k r (jah k r) 0 0 0 (bs []) []=true:=by
 have h1:=jiA hk hr
 have h2:jbu (jah k r) []=true:=by
  simp only[jbu,jah,List.length_nil,jn9]
  rfl
 unfold jal
 simp only[h1,h2,jpu,HB,ne_eq,reduceCtorEq]
 refine⟨⟨⟨⟨⟨⟨⟨⟨trivial,trivial⟩,?_⟩,?_⟩,?_⟩,?_⟩,?_⟩,?_⟩,trivial⟩<;>first|omega|decide
theorem jmR (k r:Nat) (h:k*r≤60000):ScrOk (jah k r) []:=⟨fun c hc=>by rw[qag hc];exact jnM,by simp[jah];exact h,by simp,fun s hs=>by cases hs⟩
end
section
open Go.RowKit
set_option maxRecDepth 100000
end
end
end Go.Proofs.YtienkkicehmchaaGreatDoor
