/- Texts of this claim, merged by a program of this claim: KLaw19. -/
import Derived.Test.YtienkkicehmchaaGreatDoorDa5
namespace Go.Proofs.YtienkkicehmchaaGreatDoor
set_option linter.unusedVariables false
set_option linter.unusedSimpArgs false
section
open Go.RowKit
set_option maxRecDepth 100000
def z106_0:LC:=.seq (.stm [2] [kF 3 1 2,kL 4 1 3,sd 5 (.len false 4),sd 6 (.cmp .gtr 5 (ki 3000)),kM 7 6,.g 7 false [kF 8 1 7,kL 9 1 8,sd 10 (.len true 9),sd 11 (.cmp .gtr 10 (ki 1000))] 12 kt 11,kM 13 12,.g 13 false [kF 14 1 8,kL 15 1 14,sd 16 (.len false 15),sd 17 (.cmp .gtr 16 (ki 1000))] 18 kt 17,kM 2 18]) .ret
def z106:LC:=.seq (.stm [1] [sd 1 (.box 0),kM 2 kf]) z106_0
theorem jhm:jag Tryz.prog eqs0 8 z106 [.t 2] 19=true:=by kernel_rfl
def z107_5:LC:=.seq (.stm [0] [kM 35 4,sd 36 (.eq 35 (ki 0)),kM 37 36,.b 37 true [kM 38 3,sd 39 (.bslice (.int .u8) [(k8 2),(k8 1),(k8 0),(k8 0),(k8 0),(k8 0)]),sd 40 (.call 14 [38,39])] 41 40 kf,kM 42 41,.g 42 true [kM 43 6,sd 44 (.eq 43 (ki 1))] 45 44 kf,kM 46 45,.g 46 true [kM 47 8,sd 48 (.eq 47 (ki 0))] 49 48 kf,kM 50 49,.g 50 true [kM 51 7,sd 52 (.len false 51),sd 53 (.eq 52 (ki 0))] 54 53 kf,kM 55 54,.g 55 true [sd 56 (.load true 9 1),sd 57 (.call 15 [(ki 2),56])] 58 57 kf,kM 0 58]) .ret
def z107_4:LC:=.seq (.stm [1,3,4,6,7,8] [sd 30 (.load true 9 1),sd 31 (.load true 9 1),sd 32 (.call 10 [(ki 3),30,31]),kM 29 32,sd 33 (.ext 29 0),sd 34 (.ext 29 1),kM 7 33,kM 8 34]) z107_5
def z107_3:LC:=.seq (.stm [1,3,4,6] [sd 24 (.load true 9 1),sd 25 (.load true 9 1),sd 26 (.call 10 [(ki 4),24,25]),kM 23 26,sd 27 (.ext 23 0),sd 28 (.ext 23 1),kM 5 27,kM 6 28]) z107_4
def z107_2:LC:=.seq (.stm [1,3,4] [sd 18 (.load true 9 1),sd 19 (.load true 9 1),sd 20 (.call 10 [(ki 1),18,19]),kM 17 20,sd 21 (.ext 17 0),sd 22 (.ext 17 1),kM 3 21,kM 4 22]) z107_3
def z107_1:LC:=.seq (.stm [1] [kF 13 1 2,kL 14 1 13,sd 15 (.ixS 6 14 (ki 0)),kF 16 15 0,sn (.store 1 16 (.c (.int .i32 97)))]) z107_2
def z107_0:LC:=.seq (.stm [1] [sd 10 (.call 23 [(ki 2),(ki 1)]),kM 9 10,sd 11 (.ext 9 0),sd 12 (.ext 9 1),sd 1 (.zero [.int .i64 0,.int .i64 0,.nils,.int .i64 0,.int .i64 0,.bool false,.int .u8 0,.str (bs []),.nils]),sn (.store 9 1 11),kM 2 12]) z107_1
def z107:LC:=.seq (.stm [] [kM 0 kf]) z107_0
theorem jhn:jag Tryz.prog eqs0 9 z107 [.t 0] 59=true:=by kernel_rfl
def z108_3:LC:=.seq (.stm [6] [sd 17 (.call 9 []),kM 6 17]) .ret
def z108_2:LC:=.cond 16 z108_3 .skip
def z108_1:LC:=.seq (.stm [1,2,3,16] [sd 7 (.load true 9 3),sd 8 (.call 8 [7]),kM 9 8,.g 9 false [kM 10 1,sd 11 (.lt 10 (ki 1))] 12 kt 11,kM 13 12,.g 13 false [kM 14 1,sd 15 (.cmp .gtr 14 (ki 3))] 16 kt 15]) z108_2
def z108_7:LC:=.seq (.stm [6] [kM 6 kf]) .ret
def z108_6:LC:=.cond 35 z108_7 .skip
def z108_5:LC:=.seq (.stm [1,2,3,35] [sd 18 (.call 9 []),sd 19 (.un .not 18),kM 20 19,.g 20 false [kM 21 1,sd 22 (.load true 9 3),sd 23 (.call 15 [21,22]),kM 24 23,.g 24 true [kM 25 1,sd 26 (.lt 25 (ki 3))] 27 26 kf,kM 28 27,.g 28 true [kM 29 1,sd 30 (.add 29 (ki 1)),sd 31 (.load true 9 3),sd 32 (.call 15 [30,31]),sd 33 (.un .not 32)] 34 33 kf] 35 kt 34]) z108_6
def z108_8:LC:=.seq (.reg [6] [kR 0 36 (.load true 9 3),⟨1,some 37,none,.call 20 [36],false,true⟩,kR 2 38 (.un .not 37),kR 3 39 (.mov 38),⟨4,some 40,some (39,false),.mov 1,false,false⟩,⟨5,some 41,some (39,false),.load true 9 3,false,false⟩,⟨6,some 42,some (39,false),.mov 2,false,false⟩,⟨7,some 43,some (39,false),.mov 1,false,false⟩,⟨8,some 44,some (39,false),.call 22 [43],true,true⟩,⟨9,some 45,some (39,false),.ari .and false 42 44,false,false⟩,⟨10,some 46,some (39,false),.call 21 [41,45],false,true⟩,⟨11,some 47,some (39,false),.call 15 [40,46],false,true⟩,kR 12 48 (.pick 39 kt 47),kR 13 6 (.mov 48)]) .ret
def z108_4:LC:=.seq z108_5 z108_8
def z108_0:LC:=.seq z108_1 z108_4
def z108:LC:=.seq (.stm [1,2,3] [sd 3 (.box 0),kM 6 kf]) z108_0
theorem jho:jag Tryz.prog eqs0 7 z108 [.t 6] 49=true:=by kernel_rfl
end
end Go.Proofs.YtienkkicehmchaaGreatDoor
