/- Texts of this claim, merged by a program of this claim: ThingM, KBlank, KLaw18, KRdif. -/
import Derived.Test.YtcfkfgkndncanaaGreatDoorMs20
import Derived.Test.YtcfkfgkndncanaaGreatDoorMs22
import Derived.Test.YtcfkfgkndncanaaGreatDoorMs5
namespace Go.Proofs.YtcfkfgkndncanaaGreatDoor
set_option linter.unusedVariables false
set_option linter.unusedSimpArgs false
section
structure RS where
 k:Int
 r:Int
 L:List CD
 x:Int
 y:Int
 hd:Bool
 mo:Int
 ti:ByteArray
 l:List ByteArray
 more:List ByteArray
 a:Nat
def RS.bad:RS:=⟨0,0,[],0,0,false,0,ja5 [],[],[],0⟩
def th1 (d:List Int) (s:RS):Int×RS :=
 if varE d s.a≠0 then (varE d s.a,.bad) else
 if varE d (s.a+varU d s.a)≠0 then (varE d (s.a+varU d s.a),.bad) else
 if 80<varV d s.a∨24<varV d (s.a+varU d s.a)∨varV d s.a*varV d (s.a+varU d s.a)=0 then (3,.bad) else
 (0,⟨varV d s.a,varV d (s.a+varU d s.a),List.replicate ((varV d s.a).toNat*(varV d (s.a+varU d s.a)).toNat) blank0,0,0,false,0,bs [],[],[],s.a+varU d s.a+varU d (s.a+varU d s.a)⟩)
def th2 (d:List Int) (s:RS):Int×RS :=
 if upE d s.a (s.k-1)≠0 then (upE d s.a (s.k-1),.bad) else
 if upE d (s.a+varU d s.a) (s.r-1)≠0 then (upE d (s.a+varU d s.a) (s.r-1),.bad) else
 if upE d (s.a+varU d s.a+varU d (s.a+varU d s.a)) 1≠0 then (upE d (s.a+varU d s.a+varU d (s.a+varU d s.a)) 1,.bad) else
 (0,{ s with x:=varV d s.a,y:=varV d (s.a+varU d s.a),hd:=decide (varV d (s.a+varU d s.a+varU d (s.a+varU d s.a))=1),a:=s.a+varU d s.a+varU d (s.a+varU d s.a)+varU d (s.a+varU d s.a+varU d (s.a+varU d s.a)) })
def th3 (d:List Int) (s:RS):Int×RS :=
 if jd0 d s.a 64≠0 then (jd0 d s.a 64,.bad) else (0,{ s with ti:=ja5 (je2 d s.a 64),a:=s.a+je3 d s.a 64 })
def th4 (d:List Int) (s:RS):Int×RS :=
 if upE d s.a 2≠0 then (upE d s.a 2,.bad) else (0,{ s with mo:=varV d s.a,a:=s.a+varU d s.a })
def th5 (d:List Int) (s:RS):Int×RS :=
 if (lkG d s.a s.l).1≠0 then ((lkG d s.a s.l).1,.bad) else (0,{ s with more:=(lkG d s.a s.l).2.2,L:=s.L.map (ulf s.l (lkG d s.a s.l).2.2),a:=(lkG d s.a s.l).2.1 })
def jlk (n:Int):Int:=if n % 2=0 then -n / 2 else (n+1) / 2
def th6 (d:List Int) (s:RS):Int×RS :=
 if upE d s.a (2*s.r-2)≠0 then (upE d s.a (2*s.r-2),.bad) else
 if varV d s.a=0 then (3,.bad) else
 (0,{ s with L:=(jcf (jam s.L s.k.toNat s.r.toNat) (jlk (varV d s.a))).flatten,a:=s.a+varU d s.a })
def th7 (d:List Int) (s:RS):Int×RS :=
 if (cpsG d s.a s.k.toNat s.r.toNat s.L).1≠0 then ((cpsG d s.a s.k.toNat s.r.toNat s.L).1,.bad) else
 (0,{ s with L:=(cpsG d s.a s.k.toNat s.r.toNat s.L).2.2,a:=(cpsG d s.a s.k.toNat s.r.toNat s.L).2.1 })
def th8 (d:List Int) (s:RS):Int×RS :=
 if (rnsG d s.a s.k.toNat s.more.length s.L).1≠0 then ((rnsG d s.a s.k.toNat s.more.length s.L).1,.bad) else
 (0,{ s with L:=(rnsG d s.a s.k.toNat s.more.length s.L).2.2,a:=(rnsG d s.a s.k.toNat s.more.length s.L).2.1 })
def thG (d:List Int) (kd:Int) (s:RS):Int×RS :=
 if kd=1 then th1 d s else if kd=2 then th2 d s else if kd=3 then th3 d s else if kd=4 then th4 d s else
 if kd=5 then th5 d s else if kd=6 then th6 d s else if kd=7 then th7 d s else th8 d s
end
section
open Go.RowKit
set_option maxRecDepth 100000
def z88_0:LC:=.seq (.stm [0] [sd 1 (.build [.int .i64 0,.int .i32 0,.int .u8 0,.int .u8 0] []),sd 2 (.box 1),kM 0 2]) .ret
def z88:LC:=.seq (.stm [] [kM 0 (.c .nilptr)]) z88_0
theorem jll:jaH Tryz.prog eqs0 128 z88 [.t 0] 3=true:=by kernel_rfl
def z89_0:LC:=.seq (.stm [0] [sd 1 (.call 128 []),sd 2 (.build [.nilptr,.int .i64 0,.bool false,.int .u8 0,.bool false,.nils,.nils,.bool false] [(0,1,1)]),sd 3 (.box 2),kM 0 3]) .ret
def z89:LC:=.seq (.stm [] [kM 0 (.c .nilptr)]) z89_0
theorem jhr:jaH Tryz.prog eqs0 120 z89 [.t 0] 4=true:=by kernel_rfl
def z90_5:LC:=.cond 15 .skip (.exit 0)
def z90_8:LC:=.seq (.stm [0,2,14] [kM 16 14,kM 2 16]) (.stm [0,14] [kM 17 0,kM 18 2,kM 19 2,sd 20 (.ari .rem false 19 (ki 8)),sd 21 (.eq 20 (ki 0)),kM 22 21,.g 22 true [kM 23 2,sd 24 (.cmp .gtr 23 (ki 0))] 25 24 kf,sd 26 (.nilck 17),kF 27 26 23,sd 28 (.ixA 80 1 27 18),sn (.store 1 28 25)])
def z90_7:LC:=.block 1 z90_8
def z90_6:LC:=.seq z90_7 (.stm [0,14] [sd 29 (.add 14 (ki 1)),kM 14 29])
def z90_4:LC:=.seq z90_5 z90_6
def z90_3:LC:=.seq (.stm [0,14,15] [sd 15 (.lt 14 (ki 80))]) z90_4
def z90_2:LC:=.loop z90_3
def z90_1:LC:=.block 0 z90_2
def z90_0:LC:=.seq (.stm [0,14] [kM 14 (ki 0)]) z90_1
def z90:LC:=.seq (.stm [0] [kM 3 0,kM 4 0,kM 5 0,sd 6 (.nilck 5),kF 7 6 8,kL 8 1 7,sd 9 (.sub 8 (ki 1)),sd 10 (.nilck 3),kF 11 10 17,sn (.store 1 11 (ki 0)),sd 12 (.nilck 4),kF 13 12 18,sn (.store 1 13 9)]) z90_0
theorem jdz:jaH Tryz.prog eqs0 121 z90 [] 30=true:=by kernel_rfl
def z91_4:LC:=.seq (.stm [4,5] [kM 19 7,kM 4 (.c .nilptr),kM 5 19]) .ret
def z91_3:LC:=.cond 18 z91_4 .skip
def z91_2:LC:=.seq (.stm [0,1,6,7,18] [kM 17 7,sd 18 (.cmp .neq 17 (ki 0))]) z91_3
def z91_8:LC:=.seq (.stm [4,5] [kM 36 10,kM 4 36,kM 5 (ki 0)]) .ret
def z91_7:LC:=.seq (.stm [10] [kM 34 10,sd 35 (.call 121 [34])]) z91_8
def z91_6:LC:=.seq (.reg [10] [kR 0 26 (.mov 0),kR 1 27 (.mov 1),kR 2 28 (.load true 3 6),kR 3 29 (.load true 3 8),kR 4 30 (.build [.int .i64 0,.int .i64 0,.nils,.int .i64 0,.int .i64 0,.nils] [(0,3,28),(3,3,29)]),⟨5,some 31,none,.call 120 [],true,true⟩,kR 6 32 (.build ([.int .i64 0,.int .i64 0,.int .u32 0,.int .u32 0,.int .u8 0,.int .u16 0,.bool false,.int .i64 0,.int .i64 0,.int .i64 0,.int .i64 0,.nils,.int .i64 0,.int .i64 0,.nils,.int .i64 0,.bool false,.int .i64 0,.int .i64 0,.bool false,.bool false,.bool false,.int .u8 0]++List.replicate 80 (.bool false)++[.int .i64 0,.int .i64 0,.int .u32 0,.int .u32 0,.int .u8 0,.int .u16 0,.bool false,.str (bs []),.nils,.int .i32 0,.nilptr]) [(7,1,26),(8,1,27),(9,6,30),(19,1,kt),(113,1,31)]),kR 7 33 (.box 32),kR 8 10 (.mov 33)]) z91_7
def z91_5:LC:=.seq (.stm [0,1,6,8] [kM 21 0,kM 22 1,sd 23 (.call 119 [21,22]),kM 20 23,sd 24 (.ext 20 0),sd 25 (.ext 20 1),sd 8 (.zero [.int .i64 0,.int .i64 0,.nils]),sn (.store 3 8 24),kM 9 25]) z91_6
def z91_1:LC:=.seq z91_2 z91_5
def z91_0:LC:=.seq (.stm [0,1,6,7] [kM 12 0,kM 13 1,sd 14 (.call 119 [12,13]),kM 11 14,sd 15 (.ext 11 0),sd 16 (.ext 11 1),sd 6 (.zero [.int .i64 0,.int .i64 0,.nils]),sn (.store 3 6 15),kM 7 16]) z91_1
def z91:LC:=.seq (.stm [0,1] [kM 4 (.c .nilptr),kM 5 (ki 0)]) z91_0
theorem jiR:jaH Tryz.prog eqs0 89 z91 [.t 4,.t 5] 37=true:=by kernel_rfl
def z92_0:LC:=.seq (.reg [2] [kR 0 3 (.mov 0),kR 1 4 (.mov 0),kR 2 5 (.nilck 4),kR 3 6 (.fa 5 15),kR 4 7 (.ld 1 6),kR 5 8 (.nilck 3),kR 6 9 (.fa 8 9),kR 7 10 (.ixA 2 3 9 7),kR 8 11 (.load true 3 10),⟨9,none,none,.store 3 2 11,false,true⟩]) .ret
def z92:LC:=.seq (.stm [0,2] [sd 2 (.zero [.int .i64 0,.int .i64 0,.nils])]) z92_0
theorem jd2:jaH Tryz.prog eqs0 123 z92 [.c 2 true 3] 12=true:=by kernel_rfl
def z93_3:LC:=.seq (.stm [2] [sd 7 (.build [.int .i64 0,.int .i64 0,.nils,.int .i64 0,.int .i64 0,.bool false,.int .u8 0,.str (bs []),.nils] []),sn (.store 9 2 7)]) .ret
def z93_2:LC:=.cond 6 z93_3 .skip
def z93_1:LC:=.seq (.stm [0,2,6] [kM 5 0,sd 6 (.cmpN 0 false 5)]) z93_2
def z93_5:LC:=.seq (.reg [2] [kR 0 19 (.mov 0),kR 1 20 (.nilck 19),kR 2 21 (.fa 20 7),kR 3 22 (.ld 1 21),kR 4 23 (.mov 0),kR 5 24 (.nilck 23),kR 6 25 (.fa 24 8),kR 7 26 (.ld 1 25),kR 8 27 (.mov 3),kR 9 28 (.mov 0),kR 10 29 (.nilck 28),kR 11 30 (.fa 29 0),kR 12 31 (.fa 30 0),kR 13 32 (.ld 1 31),kR 14 33 (.mov 0),kR 15 34 (.nilck 33),kR 16 35 (.fa 34 0),kR 17 36 (.fa 35 1),kR 18 37 (.ld 1 36),kR 19 38 (.mov 0),kR 20 39 (.nilck 38),kR 21 40 (.fa 39 21),kR 22 41 (.ld 1 40),kR 23 42 (.mov 0),kR 24 43 (.nilck 42),kR 25 44 (.fa 43 22),kR 26 45 (.ld 1 44),kR 27 46 (.mov 0),kR 28 47 (.nilck 46),kR 29 48 (.fa 47 110),kR 30 49 (.ld 1 48),kR 31 50 (.mov 4),kR 32 51 (.build [.int .i64 0,.int .i64 0,.nils,.int .i64 0,.int .i64 0,.bool false,.int .u8 0,.str (bs []),.nils] [(0,1,22),(1,1,26),(2,1,27),(3,1,32),(4,1,37),(5,1,41),(6,1,45),(7,1,49),(8,1,50)]),⟨33,none,none,.store 9 2 51,false,true⟩]) .ret
def z93_4:LC:=.seq (.reg [0,2,3,4] [kR 0 9 (.mov 0),kR 3 12 (.mov 0),kR 4 13 (.nilck 12),kR 5 14 (.fa 13 111),kR 6 15 (.ld 1 14),⟨1,some 10,none,.call 123 [9],true,true⟩,kR 2 11 (.field 10 2 1 false),⟨7,some 16,none,.call 122 [11,15],false,true⟩,kR 8 8 (.mov 16),kR 9 17 (.ext 8 0),kR 10 18 (.ext 8 1),kR 11 3 (.mov 17),kR 12 4 (.mov 18)]) z93_5
def z93_0:LC:=.seq z93_1 z93_4
def z93:LC:=.seq (.stm [0,2] [sd 2 (.zero [.int .i64 0,.int .i64 0,.nils,.int .i64 0,.int .i64 0,.bool false,.int .u8 0,.str (bs []),.nils])]) z93_0
theorem jdk:jaH Tryz.prog eqs0 90 z93 [.c 2 true 9] 52=true:=by kernel_rfl
def z94_4:LC:=.seq (.stm [4,5] [sd 16 (.build [.int .i64 0,.int .i64 0,.nils,.int .i64 0,.int .i64 0,.bool false,.int .u8 0,.str (bs []),.nils] []),kM 17 7,sn (.store 9 4 16),kM 5 17]) .ret
def z94_3:LC:=.cond 15 z94_4 .skip
def z94_2:LC:=.seq (.stm [4,6,7,15] [kM 14 7,sd 15 (.cmp .neq 14 (ki 0))]) z94_3
def z94_5:LC:=.seq (.stm [4,5] [kM 18 6,sd 19 (.call 90 [18]),sn (.store 9 4 19),kM 5 (ki 0)]) .ret
def z94_1:LC:=.seq z94_2 z94_5
def z94_0:LC:=.seq (.stm [4,6,7] [kM 9 0,kM 10 1,sd 11 (.call 89 [9,10]),kM 8 11,sd 12 (.ext 8 0),sd 13 (.ext 8 1),kM 6 12,kM 7 13]) z94_1
def z94:LC:=.seq (.stm [0,1,4] [sd 4 (.zero [.int .i64 0,.int .i64 0,.nils,.int .i64 0,.int .i64 0,.bool false,.int .u8 0,.str (bs []),.nils]),kM 5 (ki 0)]) z94_0
theorem jdl:jaH Tryz.prog eqs0 48 z94 [.c 4 true 9,.t 5] 20=true:=by kernel_rfl
def z95_4:LC:=.seq (.stm [4,5] [sd 16 (.build [.int .i64 0,.int .i64 0,.nils,.int .i64 0,.int .i64 0,.bool false,.int .u8 0,.str (bs []),.nils] []),kM 17 7,sn (.store 9 4 16),kM 5 17]) .ret
def z95_3:LC:=.cond 15 z95_4 .skip
def z95_2:LC:=.seq (.stm [0,1,4,6,7,15] [kM 14 7,sd 15 (.cmp .neq 14 (ki 0))]) z95_3
def z95_5:LC:=.seq (.stm [4,5] [kM 18 0,kM 19 1,kF 20 6 2,kL 21 1 20,sd 22 (.build [.int .i64 0,.int .i64 0,.nils,.int .i64 0,.int .i64 0,.bool false,.int .u8 0,.str (bs []),.nils] [(0,1,18),(1,1,19),(2,1,21)]),sn (.store 9 4 22),kM 5 (ki 0)]) .ret
def z95_1:LC:=.seq z95_2 z95_5
def z95_0:LC:=.seq (.stm [0,1,4,6,7] [kM 9 0,kM 10 1,sd 11 (.call 95 [9,10]),kM 8 11,sd 12 (.ext 8 0),sd 13 (.ext 8 1),sd 6 (.zero [.int .i64 0,.int .i64 0,.nils]),sn (.store 3 6 12),kM 7 13]) z95_1
def z95:LC:=.seq (.stm [0,1,4] [sd 4 (.zero [.int .i64 0,.int .i64 0,.nils,.int .i64 0,.int .i64 0,.bool false,.int .u8 0,.str (bs []),.nils]),kM 5 (ki 0)]) z95_0
theorem jq1:jaH Tryz.prog eqs0 55 z95 [.c 4 true 9,.t 5] 23=true:=by kernel_rfl
end
section
open Go.RowKit
set_option maxRecDepth 100000
def z96_7:LC:=.cond 16 .skip (.exit 0)
def z96_9:LC:=.seq (.stm [0,2,3,5,6,14] [sd 17 (.ext 15 1),sd 18 (.ext 15 2),kM 5 17,kM 6 18]) (.stm [0,2,3,14] [kF 19 3 2,kL 20 1 19,kM 21 5,kM 22 6,sd 23 (.ixS 6 20 21),kF 24 23 0,sn (.store 1 24 22)])
def z96_8:LC:=.block 1 z96_9
def z96_6:LC:=.seq z96_7 z96_8
def z96_5:LC:=.seq (.stm [0,2,3,14,15,16] [sd 15 (.nxt 14),sd 16 (.ext 15 0)]) z96_6
def z96_4:LC:=.loop z96_5
def z96_3:LC:=.block 0 z96_4
def z96_2:LC:=.seq (.stm [0,2,3,14] [kM 13 0,sd 14 (.rng 13)]) z96_3
def z96_11:LC:=.seq (.stm [2] [sd 29 (.load true 9 3),sn (.store 9 2 29)]) .ret
def z96_10:LC:=.seq (.stm [2,3] [kM 25 0,sd 26 (.len true 25),sd 27 (.sub 26 (ki 1)),kF 28 3 4,sn (.store 1 28 27)]) z96_11
def z96_1:LC:=.seq z96_2 z96_10
def z96_0:LC:=.seq (.stm [0,2,3] [kM 8 0,sd 9 (.len true 8),sd 10 (.call 55 [(ki 1),9]),kM 7 10,sd 11 (.ext 7 0),sd 12 (.ext 7 1),sd 3 (.zero [.int .i64 0,.int .i64 0,.nils,.int .i64 0,.int .i64 0,.bool false,.int .u8 0,.str (bs []),.nils]),sn (.store 9 3 11),kM 4 12]) z96_1
def z96:LC:=.seq (.stm [0,2] [sd 2 (.zero [.int .i64 0,.int .i64 0,.nils,.int .i64 0,.int .i64 0,.bool false,.int .u8 0,.str (bs []),.nils])]) z96_0
theorem jo7:jaH Tryz.prog eqs0 21 z96 [.c 2 true 9] 30=true:=by kernel_rfl
def z97_2:LC:=.seq (.stm [0] [kM 17 2,sd 18 (.eq 17 (ki 0)),kM 19 18,.g 19 true [kM 20 4,sd 21 (.eq 20 (ki 0))] 22 21 kf,kM 23 22,.b 23 true [kM 24 1,sd 25 (.bslice (.int .u8) [(k8 6),(k8 1),(k8 8),(k8 1),(k8 2),(k8 1),(k8 0),(k8 0),(k8 0),(k8 0),(k8 100)]),sd 26 (.call 14 [24,25])] 27 26 kf,kM 28 27,.b 28 true [kM 29 3,sd 30 (.bslice (.int .u8) [(k8 7),(k8 1),(k8 0),(k8 1)]),sd 31 (.call 14 [29,30])] 32 31 kf,kM 0 32]) .ret
def z97_1:LC:=.seq (.stm [1,2,3,4] [sd 12 (.call 21 [(.c (.str (bs [97,98,99])))]),sd 13 (.call 21 [(.c (.str (bs [98,98,99])))]),sd 14 (.call 16 [12,13]),kM 11 14,sd 15 (.ext 11 0),sd 16 (.ext 11 1),kM 3 15,kM 4 16]) z97_2
def z97_0:LC:=.seq (.stm [1,2] [sd 6 (.call 21 [(.c (.str (bs [97,98,99])))]),sd 7 (.call 21 [(.c (.str (bs [98,99,100])))]),sd 8 (.call 16 [6,7]),kM 5 8,sd 9 (.ext 5 0),sd 10 (.ext 5 1),kM 1 9,kM 2 10]) z97_1
def z97:LC:=.seq (.stm [] [kM 0 kf]) z97_0
theorem jlv:jaH Tryz.prog eqs0 8 z97 [.t 0] 33=true:=by kernel_rfl
end
section
open Go.RowKit
set_option maxRecDepth 100000
end
end Go.Proofs.YtcfkfgkndncanaaGreatDoor
