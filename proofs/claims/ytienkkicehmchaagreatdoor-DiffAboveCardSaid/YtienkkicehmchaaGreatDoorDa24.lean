/- Texts of this claim, merged by a program of this claim: KFits. -/
import Derived.Test.YtienkkicehmchaaGreatDoorDa5
namespace Go.Proofs.YtienkkicehmchaaGreatDoor
set_option linter.unusedVariables false
set_option linter.unusedSimpArgs false
section
open Go.RowKit
set_option maxRecDepth 100000
def z78_0:LC:=.seq (.stm [2] [kF 3 1 1,kL 4 1 3,sd 5 (.cmp .neq 4 (k8 0)),kM 6 5,.g 6 false [kF 7 1 2,kF 8 7 0,kL 9 1 8,sd 10 (.cmp .gtr 9 (.c (.int .u32 256)))] 11 kt 10,kM 12 11,.g 12 false [kF 13 1 2,kF 14 13 1,kL 15 1 14,sd 16 (.cmp .gtr 15 (.c (.int .u32 256)))] 17 kt 16,kM 2 17]) .ret
def z78:LC:=.seq (.stm [1] [sd 1 (.box 0),kM 2 kf]) z78_0
theorem jcX:jag Tryz.prog eqs0 134 z78 [.t 2] 18=true:=by kernel_rfl
def z79_0:LC:=.seq (.stm [2] [kF 3 1 1,kL 4 1 3,sd 5 (.cmp .neq 4 (k8 0)),kM 2 5]) .ret
def z79:LC:=.seq (.stm [1] [sd 1 (.box 0),kM 2 kf]) z79_0
theorem jcY:jag Tryz.prog eqs0 143 z79 [.t 2] 6=true:=by kernel_rfl
def z80_6:LC:=.cond 9 .skip (.exit 0)
def z80_12:LC:=.seq (.stm [4] [kM 17 5,kM 4 17]) .ret
def z80_11:LC:=.cond 16 z80_12 .skip
def z80_10:LC:=.seq (.stm [0,1,5,7,8,16] [kM 11 1,kM 12 0,kM 13 5,sd 14 (.ixS 6 12 13),sd 15 (.load true 6 14),sd 16 (.callv 11 [15])]) z80_11
def z80_9:LC:=.seq (.stm [0,1,5,7,8] [kM 10 8,kM 5 10]) z80_10
def z80_8:LC:=.block 1 z80_9
def z80_7:LC:=.seq z80_8 (.stm [0,1,7,8] [sd 18 (.add 8 (ki 1)),kM 8 18])
def z80_5:LC:=.seq z80_6 z80_7
def z80_4:LC:=.seq (.stm [0,1,7,8,9] [sd 9 (.lt 8 7)]) z80_5
def z80_3:LC:=.loop z80_4
def z80_2:LC:=.block 0 z80_3
def z80_1:LC:=.seq (.stm [0,1,7,8] [kM 6 0,sd 7 (.len false 6),kM 8 (ki 0)]) z80_2
def z80_13:LC:=.seq (.stm [4] [sd 4 (.mov (ki (-1)))]) .ret
def z80_0:LC:=.seq z80_1 z80_13
def z80:LC:=.seq (.stm [0,1] [kM 4 (ki 0)]) z80_0
theorem jaL:jag Tryz.prog eqs0 160 z80 [.t 4] 19=true:=by kernel_rfl
def z81_0:LC:=.seq (.stm [4] [kM 5 0,kM 6 1,sd 7 (.call 160 [5,6]),sd 8 (.cmp .geq 7 (ki 0)),kM 4 8]) .ret
def z81:LC:=.seq (.stm [0,1] [kM 4 kf]) z81_0
theorem jat:jag Tryz.prog eqs0 133 z81 [.t 4] 9=true:=by kernel_rfl
def z82_0:LC:=.seq (.stm [2] [sd 3 (.load true 9 1),sd 4 (.call 41 [3]),kM 5 4,.g 5 true [kF 6 1 8,kL 7 1 6,sd 8 (.len false 7),sd 9 (.eq 8 (ki 0))] 10 9 kf,kM 11 10,.g 11 true [kF 12 1 6,kL 13 1 12,sd 14 (.eq 13 (k8 0))] 15 14 kf,kM 16 15,.g 16 true [kF 17 1 2,kL 18 1 17,sd 19 (.call 133 [18,(.c (.fn 134 []))]),sd 20 (.un .not 19)] 21 20 kf,kM 2 21]) .ret
def z82:LC:=.seq (.stm [1] [sd 1 (.box 0),kM 2 kf]) z82_0
theorem jea:jag Tryz.prog eqs0 98 z82 [.t 2] 22=true:=by kernel_rfl
def z83_0:LC:=.seq (.stm [2] [sd 3 (.load true 9 1),sd 4 (.call 41 [3]),kM 5 4,.g 5 true [kF 6 1 8,kL 7 1 6,sd 8 (.len false 7),sd 9 (.eq 8 (ki 0))] 10 9 kf,kM 11 10,.g 11 true [kF 12 1 2,kL 13 1 12,sd 14 (.call 133 [13,(.c (.fn 143 []))]),sd 15 (.un .not 14)] 16 15 kf,kM 2 16]) .ret
def z83:LC:=.seq (.stm [1] [sd 1 (.box 0),kM 2 kf]) z83_0
theorem jeb:jag Tryz.prog eqs0 102 z83 [.t 2] 17=true:=by kernel_rfl
def z84_0:LC:=.seq (.stm [4] [sd 5 (.load true 9 3),sd 6 (.call 98 [5]),kM 4 6]) .ret
def z84:LC:=.seq (.stm [3] [sd 2 (.box 0),sd 3 (.box 1),kM 4 kf]) z84_0
theorem jcD:jag Tryz.prog eqs0 46 z84 [.t 4] 7=true:=by kernel_rfl
def z85_0:LC:=.seq (.stm [4] [sd 5 (.load true 9 3),sd 6 (.call 102 [5]),kM 4 6]) .ret
def z85:LC:=.seq (.stm [3] [sd 2 (.box 0),sd 3 (.box 1),kM 4 kf]) z85_0
theorem jbj:jag Tryz.prog eqs0 50 z85 [.t 4] 7=true:=by kernel_rfl
def z86_0:LC:=.seq (.stm [4] [sd 5 (.load true 9 3),sd 6 (.call 41 [5]),kM 4 6]) .ret
def z86:LC:=.seq (.stm [3] [sd 2 (.box 0),sd 3 (.box 1),kM 4 kf]) z86_0
theorem jcE:jag Tryz.prog eqs0 54 z86 [.t 4] 7=true:=by kernel_rfl
def z87_6:LC:=.seq (.stm [2,3] [sd 11 (.load true 0 4),sd 12 (.mkm 46 11),sd 13 (.load true 0 4),sd 14 (.mkm 47 13),sd 15 (.load true 0 4),sd 16 (.mkm 48 15),sd 17 (.load true 0 4),sd 18 (.mkm 49 17),sd 19 (.build [.nilfn,.nilfn,.nilfn,.nilfn] [(0,1,12),(1,1,14),(2,1,16),(3,1,18)]),sn (.store 4 2 19),kM 3 kt]) .ret
def z87_5:LC:=.seq (.stm [2,4] [sd 10 (.build [] []),sd 4 (.zero []),sn (.store 0 4 10)]) z87_6
def z87_10:LC:=.seq (.stm [2,3] [sd 23 (.load true 0 5),sd 24 (.mkm 50 23),sd 25 (.load true 0 5),sd 26 (.mkm 51 25),sd 27 (.load true 0 5),sd 28 (.mkm 52 27),sd 29 (.load true 0 5),sd 30 (.mkm 53 29),sd 31 (.build [.nilfn,.nilfn,.nilfn,.nilfn] [(0,1,24),(1,1,26),(2,1,28),(3,1,30)]),sn (.store 4 2 31),kM 3 kt]) .ret
def z87_9:LC:=.seq (.stm [2,5] [sd 22 (.build [] []),sd 5 (.zero []),sn (.store 0 5 22)]) z87_10
def z87_14:LC:=.seq (.stm [2,3] [sd 35 (.load true 0 6),sd 36 (.mkm 54 35),sd 37 (.load true 0 6),sd 38 (.mkm 55 37),sd 39 (.load true 0 6),sd 40 (.mkm 56 39),sd 41 (.load true 0 6),sd 42 (.mkm 57 41),sd 43 (.build [.nilfn,.nilfn,.nilfn,.nilfn] [(0,1,36),(1,1,38),(2,1,40),(3,1,42)]),sn (.store 4 2 43),kM 3 kt]) .ret
def z87_13:LC:=.seq (.stm [2,6] [sd 34 (.build [] []),sd 6 (.zero []),sn (.store 0 6 34)]) z87_14
def z87_12:LC:=.cond 32 z87_13 .skip
def z87_11:LC:=.seq (.stm [2,32] [sd 33 (.eq 7 (ki 3)),kM 32 33]) z87_12
def z87_8:LC:=.cond 20 z87_9 z87_11
def z87_7:LC:=.seq (.stm [2,7,20] [sd 21 (.eq 7 (ki 2)),kM 20 21]) z87_8
def z87_4:LC:=.cond 8 z87_5 z87_7
def z87_3:LC:=.seq (.stm [2,7,8] [sd 9 (.eq 7 (ki 1)),kM 8 9]) z87_4
def z87_2:LC:=.block 0 z87_3
def z87_1:LC:=.seq (.stm [2,7] [kM 7 0]) z87_2
def z87_15:LC:=.seq (.stm [2,3] [sd 44 (.build [.nilfn,.nilfn,.nilfn,.nilfn] []),sn (.store 4 2 44),kM 3 kf]) .ret
def z87_0:LC:=.seq z87_1 z87_15
def z87:LC:=.seq (.stm [0,2] [sd 2 (.zero [.nilfn,.nilfn,.nilfn,.nilfn]),kM 3 kf]) z87_0
theorem jg4:jag Tryz.prog eqs0 24 z87 [.c 2 true 4,.t 3] 45=true:=by kernel_rfl
def z88_1:LC:=.seq (.stm [4] [kM 12 6,kM 13 12,.b 13 true [kF 14 5 0,kL 15 1 14,sd 16 (.load true 9 3),sd 17 (.callv 15 [16])] 18 17 kf,kM 4 18]) .ret
def z88_0:LC:=.seq (.stm [3,5,6] [kM 8 0,sd 9 (.call 24 [8]),kM 7 9,sd 10 (.ext 7 0),sd 11 (.ext 7 1),sd 5 (.zero [.nilfn,.nilfn,.nilfn,.nilfn]),sn (.store 4 5 10),kM 6 11]) z88_1
def z88:LC:=.seq (.stm [0,3] [sd 3 (.box 1),kM 4 kf]) z88_0
theorem jec:jag Tryz.prog eqs0 15 z88 [.t 4] 19=true:=by kernel_rfl
end
end Go.Proofs.YtienkkicehmchaaGreatDoor
