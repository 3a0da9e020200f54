/- Texts of this claim, merged by a program of this claim: KFits, FitsM. -/
import Derived.Test.YtienkkicehmchaaGreatDoorDl15
import Derived.Test.YtienkkicehmchaaGreatDoorDl5
namespace Go.Proofs.YtienkkicehmchaaGreatDoor
set_option linter.unusedVariables false
set_option linter.unusedSimpArgs false
section
open Go.RowKit
set_option maxRecDepth 100000
def z71_0:LC:=.seq (.stm [2] [kF 3 1 1,kL 4 1 3,sd 5 (.cmp .neq 4 (k8 0)),kM 6 5,.g 6 false [kF 7 1 2,kF 8 7 0,kL 9 1 8,sd 10 (.cmp .gtr 9 (.c (.int .u32 256)))] 11 kt 10,kM 12 11,.g 12 false [kF 13 1 2,kF 14 13 1,kL 15 1 14,sd 16 (.cmp .gtr 15 (.c (.int .u32 256)))] 17 kt 16,kM 2 17]) .ret
def z71:LC:=.seq (.stm [1] [sd 1 (.box 0),kM 2 kf]) z71_0
theorem jgB:jad Tryz.prog eqs0 134 z71 [.t 2] 18=true:=by kernel_rfl
def z72_0:LC:=.seq (.stm [2] [kF 3 1 1,kL 4 1 3,sd 5 (.cmp .neq 4 (k8 0)),kM 2 5]) .ret
def z72:LC:=.seq (.stm [1] [sd 1 (.box 0),kM 2 kf]) z72_0
theorem jgC:jad Tryz.prog eqs0 143 z72 [.t 2] 6=true:=by kernel_rfl
def z73_10:LC:=.seq (.stm [0,1,5,7,8,16] [kM 11 1,kM 12 0,kM 13 5,sd 14 (.ixS 6 12 13),sd 15 (.load true 6 14),sd 16 (.callv 11 [15])]) (.cond 16 (.seq (.stm [4] [kM 17 5,kM 4 17]) .ret) .skip)
def z73_8:LC:=.block 1 (.seq (.stm [0,1,5,7,8] [kM 10 8,kM 5 10]) z73_10)
def z73_7:LC:=.seq z73_8 (.stm [0,1,7,8] [sd 18 (.add 8 (ki 1)),kM 8 18])
def z73_4:LC:=.seq (.stm [0,1,7,8,9] [sd 9 (.lt 8 7)]) (.seq (.cond 9 .skip (.exit 0)) z73_7)
def z73_3:LC:=.loop z73_4
def z73_1:LC:=.seq (.stm [0,1,7,8] [kM 6 0,sd 7 (.len false 6),kM 8 (ki 0)]) (.block 0 z73_3)
def z73_0:LC:=.seq z73_1 (.seq (.stm [4] [sd 4 (.mov (ki (-1)))]) .ret)
def z73:LC:=.seq (.stm [0,1] [kM 4 (ki 0)]) z73_0
theorem jbS:jad Tryz.prog eqs0 160 z73 [.t 4] 19=true:=by kernel_rfl
def z74_0:LC:=.seq (.stm [4] [kM 5 0,kM 6 1,sd 7 (.call 160 [5,6]),sd 8 (.cmp .geq 7 (ki 0)),kM 4 8]) .ret
def z74:LC:=.seq (.stm [0,1] [kM 4 kf]) z74_0
theorem jaY:jad Tryz.prog eqs0 133 z74 [.t 4] 9=true:=by kernel_rfl
def z75_0:LC:=.seq (.stm [2] [sd 3 (.load true 9 1),sd 4 (.call 41 [3]),kM 5 4,.g 5 true [kF 6 1 8,kL 7 1 6,sd 8 (.len false 7),sd 9 (.eq 8 (ki 0))] 10 9 kf,kM 11 10,.g 11 true [kF 12 1 6,kL 13 1 12,sd 14 (.eq 13 (k8 0))] 15 14 kf,kM 16 15,.g 16 true [kF 17 1 2,kL 18 1 17,sd 19 (.call 133 [18,(.c (.fn 134 []))]),sd 20 (.un .not 19)] 21 20 kf,kM 2 21]) .ret
def z75:LC:=.seq (.stm [1] [sd 1 (.box 0),kM 2 kf]) z75_0
theorem jea:jad Tryz.prog eqs0 98 z75 [.t 2] 22=true:=by kernel_rfl
def z76_0:LC:=.seq (.stm [2] [sd 3 (.load true 9 1),sd 4 (.call 41 [3]),kM 5 4,.g 5 true [kF 6 1 8,kL 7 1 6,sd 8 (.len false 7),sd 9 (.eq 8 (ki 0))] 10 9 kf,kM 11 10,.g 11 true [kF 12 1 2,kL 13 1 12,sd 14 (.call 133 [13,(.c (.fn 143 []))]),sd 15 (.un .not 14)] 16 15 kf,kM 2 16]) .ret
def z76:LC:=.seq (.stm [1] [sd 1 (.box 0),kM 2 kf]) z76_0
theorem jeb:jad Tryz.prog eqs0 102 z76 [.t 2] 17=true:=by kernel_rfl
def z77_0:LC:=.seq (.stm [4] [sd 5 (.load true 9 3),sd 6 (.call 98 [5]),kM 4 6]) .ret
def z77:LC:=.seq (.stm [3] [sd 2 (.box 0),sd 3 (.box 1),kM 4 kf]) z77_0
theorem jdK:jad Tryz.prog eqs0 46 z77 [.t 4] 7=true:=by kernel_rfl
def z78_0:LC:=.seq (.stm [4] [sd 5 (.load true 9 3),sd 6 (.call 102 [5]),kM 4 6]) .ret
def z78:LC:=.seq (.stm [3] [sd 2 (.box 0),sd 3 (.box 1),kM 4 kf]) z78_0
theorem jdm:jad Tryz.prog eqs0 50 z78 [.t 4] 7=true:=by kernel_rfl
def z79_0:LC:=.seq (.stm [4] [sd 5 (.load true 9 3),sd 6 (.call 41 [5]),kM 4 6]) .ret
def z79:LC:=.seq (.stm [3] [sd 2 (.box 0),sd 3 (.box 1),kM 4 kf]) z79_0
theorem jdL:jad Tryz.prog eqs0 54 z79 [.t 4] 7=true:=by kernel_rfl
def z80_6:LC:=.seq (.stm [2,3] [sd 11 (.load true 0 4),sd 12 (.mkm 46 11),sd 13 (.load true 0 4),sd 14 (.mkm 47 13),sd 15 (.load true 0 4),sd 16 (.mkm 48 15),sd 17 (.load true 0 4),sd 18 (.mkm 49 17),sd 19 (.build [.nilfn,.nilfn,.nilfn,.nilfn] [(0,1,12),(1,1,14),(2,1,16),(3,1,18)]),sn (.store 4 2 19),kM 3 kt]) .ret
def z80_5:LC:=.seq (.stm [2,4] [sd 10 (.build [] []),sd 4 (.zero []),sn (.store 0 4 10)]) z80_6
def z80_10:LC:=.seq (.stm [2,3] [sd 23 (.load true 0 5),sd 24 (.mkm 50 23),sd 25 (.load true 0 5),sd 26 (.mkm 51 25),sd 27 (.load true 0 5),sd 28 (.mkm 52 27),sd 29 (.load true 0 5),sd 30 (.mkm 53 29),sd 31 (.build [.nilfn,.nilfn,.nilfn,.nilfn] [(0,1,24),(1,1,26),(2,1,28),(3,1,30)]),sn (.store 4 2 31),kM 3 kt]) .ret
def z80_9:LC:=.seq (.stm [2,5] [sd 22 (.build [] []),sd 5 (.zero []),sn (.store 0 5 22)]) z80_10
def z80_14:LC:=.seq (.stm [2,3] [sd 35 (.load true 0 6),sd 36 (.mkm 54 35),sd 37 (.load true 0 6),sd 38 (.mkm 55 37),sd 39 (.load true 0 6),sd 40 (.mkm 56 39),sd 41 (.load true 0 6),sd 42 (.mkm 57 41),sd 43 (.build [.nilfn,.nilfn,.nilfn,.nilfn] [(0,1,36),(1,1,38),(2,1,40),(3,1,42)]),sn (.store 4 2 43),kM 3 kt]) .ret
def z80_13:LC:=.seq (.stm [2,6] [sd 34 (.build [] []),sd 6 (.zero []),sn (.store 0 6 34)]) z80_14
def z80_11:LC:=.seq (.stm [2,32] [sd 33 (.eq 7 (ki 3)),kM 32 33]) (.cond 32 z80_13 .skip)
def z80_7:LC:=.seq (.stm [2,7,20] [sd 21 (.eq 7 (ki 2)),kM 20 21]) (.cond 20 z80_9 z80_11)
def z80_3:LC:=.seq (.stm [2,7,8] [sd 9 (.eq 7 (ki 1)),kM 8 9]) (.cond 8 z80_5 z80_7)
def z80_15:LC:=.seq (.stm [2,3] [sd 44 (.build [.nilfn,.nilfn,.nilfn,.nilfn] []),sn (.store 4 2 44),kM 3 kf]) .ret
def z80_0:LC:=.seq (.seq (.stm [2,7] [kM 7 0]) (.block 0 z80_3)) z80_15
def z80:LC:=.seq (.stm [0,2] [sd 2 (.zero [.nilfn,.nilfn,.nilfn,.nilfn]),kM 3 kf]) z80_0
theorem jgD:jad Tryz.prog eqs0 24 z80 [.c 2 true 4,.t 3] 45=true:=by kernel_rfl
def z81_1:LC:=.seq (.stm [4] [kM 12 6,kM 13 12,.b 13 true [kF 14 5 0,kL 15 1 14,sd 16 (.load true 9 3),sd 17 (.callv 15 [16])] 18 17 kf,kM 4 18]) .ret
def z81_0:LC:=.seq (.stm [3,5,6] [kM 8 0,sd 9 (.call 24 [8]),kM 7 9,sd 10 (.ext 7 0),sd 11 (.ext 7 1),sd 5 (.zero [.nilfn,.nilfn,.nilfn,.nilfn]),sn (.store 4 5 10),kM 6 11]) z81_1
def z81:LC:=.seq (.stm [0,3] [sd 3 (.box 1),kM 4 kf]) z81_0
theorem jfS:jad Tryz.prog eqs0 15 z81 [.t 4] 19=true:=by kernel_rfl
end
section
def fit1 (c:CD):Bool:=c.wide==0&&decide (c.fg≤256)&&decide (c.bg≤256)
def fit2 (c:CD):Bool:=c.wide==0
def jaL (k r:Int) (L:List CD) (x y mo:Int) (ti:ByteArray) (l:List ByteArray):Bool:=jai k r L x y mo ti l&&decide (l.length=0)&&(mo==0)&&L.all fit1
def jaO (k r:Int) (L:List CD) (x y mo:Int) (ti:ByteArray) (l:List ByteArray):Bool:=jai k r L x y mo ti l&&decide (l.length=0)&&L.all fit2
def jay (v k r:Int) (L:List CD) (x y mo:Int) (ti:ByteArray) (l:List ByteArray):Bool :=
 if v=1 then jaL k r L x y mo ti l else if v=2 then jaO k r L x y mo ti l else if v=3 then jai k r L x y mo ti l else false
end
end Go.Proofs.YtienkkicehmchaaGreatDoor
