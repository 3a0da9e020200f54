/- Texts of this claim, merged by a program of this claim: KDefer, FApply5, Tev. -/
import Derived.Test.YtcfkfgkndncanaaGreatDoorMa10
import Derived.Test.YtcfkfgkndncanaaGreatDoorMa13
import Derived.Test.YtcfkfgkndncanaaGreatDoorMa24
import Derived.Test.YtcfkfgkndncanaaGreatDoorMa28
import Derived.Test.YtcfkfgkndncanaaGreatDoorMa30
import Derived.Test.YtcfkfgkndncanaaGreatDoorMa33
import Derived.Test.YtcfkfgkndncanaaGreatDoorMa9
namespace Go.Proofs.YtcfkfgkndncanaaGreatDoor
set_option linter.unusedVariables false
set_option linter.unusedSimpArgs false
section
open Go.RowKit
set_option maxRecDepth 100000
def z107_8:LC:=.cond 34 .skip (.exit 0)
def z107_7:LC:=.seq (.stm [4,5,6,7,34] [kM 29 6,sd 30 (.nilck 29),kF 31 30 0,kL 32 1 31,sd 33 (.call 27 [32]),sd 34 (.cmp .gtr 33 (ki 0))]) z107_8
def z107_13:LC:=.cond 47 (.stm [4,5,6,8] [sd 48 (.mkif 31 (ki 3)),sn (.panic 48)]) .skip
def z107_12:LC:=.seq (.stm [4,5,6,8,47] [kM 41 8,kM 42 7,sd 43 (.cmp .leq 41 42),kM 44 43,.g 44 false [kM 45 8,sd 46 (.cmp .gtr 45 (ki 8))] 47 kt 46]) z107_13
def z107_14:LC:=.seq (.stm [4,5,6,7,8] [kM 49 8,kM 7 49]) (.stm [4,5,6,7] [kM 50 6,kM 51 8,sd 52 (.call 29 [50,51])])
def z107_11:LC:=.seq z107_12 z107_14
def z107_10:LC:=.seq (.stm [4,5,6,7,8] [kM 35 6,sd 36 (.nilck 35),kF 37 36 0,kL 38 1 37,sd 39 (.call 28 [38,(ki 1)]),sd 40 (.conv .i64 true 39),kM 8 40]) z107_11
def z107_9:LC:=.block 1 z107_10
def z107_6:LC:=.seq z107_7 z107_9
def z107_5:LC:=.loop z107_6
def z107_4:LC:=.block 0 z107_5
def z107_3:LC:=.seq (.stm [4,5,6,7] [kM 7 (ki 0)]) z107_4
def z107_19:LC:=.seq (.stm [4,5] [sd 67 (.build [.int .i64 0,.int .i64 0,.nils,.int .i64 0,.int .i64 0,.bool false,.int .u8 0,.str (bs []),.nils] []),sn (.store 9 4 67),sn (.store 1 5 (ki 3))]) .ret
def z107_18:LC:=.cond 66 z107_19 .skip
def z107_17:LC:=.seq (.stm [4,5,6,66] [kM 61 6,sd 62 (.nilck 61),kF 63 62 1,sd 64 (.load true 9 63),sd 65 (.call 22 [64]),sd 66 (.un .not 65)]) z107_18
def z107_20:LC:=.seq (.stm [4,5] [kM 68 6,sd 69 (.nilck 68),kF 70 69 1,sd 71 (.load true 9 70),sn (.store 9 4 71),sn (.store 1 5 (ki 0))]) .ret
def z107_16:LC:=.seq z107_17 z107_20
def z107_15:LC:=.seq (.stm [4,5,6] [kM 53 6,kM 54 6,sd 55 (.nilck 54),kF 56 55 10,kL 57 1 56,sd 58 (.nilck 53),kF 59 58 1,kF 60 59 8,sn (.store 1 60 57)]) z107_16
def z107_2:LC:=.seq z107_3 z107_15
def z107_1:LC:=.seq (.reg [4,5,6] [kR 0 22 (.mov 1),kR 2 24 (.load true 9 2),kR 3 25 (.fa 2 8),kR 4 26 (.ld 1 25),⟨1,some 23,none,.call 26 [22],true,true⟩,kR 5 27 (.build [.nilptr,.int .i64 0,.int .i64 0,.nils,.int .i64 0,.int .i64 0,.bool false,.int .u8 0,.str (bs []),.nils,.nils] [(0,1,23),(1,9,24),(10,1,26)]),kR 6 28 (.box 27),kR 7 6 (.mov 28)]) z107_2
def z107_0:LC:=.seq (.reg [1,2,4,5] [kR 0 14 (.fa 2 2),kR 1 15 (.ld 1 14),kR 3 17 (.fa 2 8),kR 4 18 (.ld 1 17),⟨2,some 16,none,.call 24 [15],true,true⟩,kR 6 20 (.fa 2 2),⟨5,some 19,none,.call 25 [18],false,true⟩,⟨7,none,none,.store 1 20 16,false,true⟩,kR 8 21 (.fa 2 8),⟨9,none,none,.store 1 21 19,false,true⟩]) z107_1
def z107_23:LC:=.seq (.stm [4,5] [sd 12 (.build [.int .i64 0,.int .i64 0,.nils,.int .i64 0,.int .i64 0,.bool false,.int .u8 0,.str (bs []),.nils] []),sn (.store 9 4 12),sn (.store 1 5 (ki 1))]) .ret
def z107_22:LC:=.cond 11 z107_23 .skip
def z107_21:LC:=.seq (.stm [1,2,4,5,11] [sd 9 (.load true 9 2),sd 10 (.call 22 [9]),sd 11 (.un .not 10)]) z107_22
def z107:LD:=.pre (.stm [1,2,4,5] [sd 2 (.box 0),sd 4 (.zero [.int .i64 0,.int .i64 0,.nils,.int .i64 0,.int .i64 0,.bool false,.int .u8 0,.str (bs []),.nils]),sd 5 (.zero [.int .i64 0])]) (.pre z107_21 (.dfr 13 23 [4,5] 6 z107_0))
theorem jic:jpb Tryz.prog eqs0 11 z107 [.c 4 true 9,.c 5 false 1] 72=true:=by kernel_rfl
def z108_5:LC:=.cond 14 (.stm [0,1,3] [kM 3 (ki 3)]) .skip
def z108_4:LC:=.seq (.stm [0,1,3,14] [kM 13 4,sd 14 (.un .not 13)]) z108_5
def z108_3:LC:=.seq z108_4 (.stm [] [sd 15 (.build [.int .i64 0,.int .i64 0,.nils,.int .i64 0,.int .i64 0,.bool false,.int .u8 0,.str (bs []),.nils] []),kM 16 3,sn (.store 9 0 15),sn (.store 1 1 16)])
def z108_2:LC:=.seq (.stm [0,1,3,4] [kM 9 2,sd 10 (.tas 31 true (.int .i64 0) 9),kM 8 10,sd 11 (.ext 8 0),sd 12 (.ext 8 1),kM 3 11,kM 4 12]) z108_3
def z108_1:LC:=.cond 7 z108_2 .skip
def z108_0:LC:=.seq (.stm [0,1,2,7] [kM 6 2,sd 7 (.cmpN 2 true 6)]) z108_1
def z108:LC:=z108_0
abbrev jgi:FuncId:=23
theorem jgj:juz Tryz.prog eqs0 23 5 2 z108 17=true:=by kernel_rfl
end
section
open Go.RowKit
set_option maxRecDepth 100000
set_option maxHeartbeats 4000000
theorem jgk {k r:Int}{L:List CD}{x y mo:Int}{ti:ByteArray}{l:List ByteArray}(h:jb5 k r L x y mo ti l=true):jcI k r L=true:=by
 unfold jb5 at h
 simp only[HB,ne_eq,reduceCtorEq]at h
 exact h.1.1.1.1.1.1.1.1
abbrev jAf:List CV:=[.int .i64 0,.int .i64 0,.nils,.int .i64 0,.int .i64 0,.bool false,.int .u8 0,.str (bs []),.nils]
theorem jA2 (x y:CV) (h:KH):Clo Tryz.prog E0 jgi [x,y] .niliface h h:=by
 refine Clo.intro (V:=VV [] GOk.nil 17 h.length) jgj rfl rfl ?_
 repeat' first|simp only[PB,SA,seval,rdB,tq0,tq1,tq2]|refine tT ?_|refine And.intro ?_ ?_|exact tC|(refine tI ?_;intro hyp)|intro hyp0|omega
theorem jlM (A:KB) (c:CV) (rest:KH) (no:Int):Clo Tryz.prog E0 jgi [.ptr 1 0 0,.ptr 2 0 0] (errV no) (A :: .box jAf :: .box [c]::rest) (A :: .box jAf :: .box [.int .i64 no]::rest):=by
 refine Clo.intro (V:=VV [] GOk.nil 17 (A :: .box jAf :: .box [c]::rest).length) jgj rfl rfl ?_
 repeat' first|simp only[PB,SA,seval,rdB,tq0,tq1,tq2]|refine tT ?_|refine And.intro ?_ ?_|exact tC|(refine tI ?_;intro hyp)|intro hyp0|omega
theorem ji5 {k r:Int}{L:List CD}{x y mo:Int}{ti:ByteArray}{l:List ByteArray}(h:jb5 k r L x y mo ti l=true):Szd k r L∧l.length≤16∧∀c∈L,c.link≤l.length:=by
 have hg:=jgk h
 obtain⟨hk,hr,hl,_⟩:=ji2 hg
 unfold jb5 at h
 simp only[Bool.and_eq_true,decide_eq_true_eq]at h
 obtain⟨⟨⟨⟨⟨⟨⟨⟨h1,h2⟩,h3⟩,h4⟩,h5⟩,h6⟩,h7⟩,h8⟩,h9⟩:=h
 unfold jct at h2
 simp only[Bool.and_eq_true,decide_eq_true_eq]at h2
 obtain⟨K,rfl⟩:∃n:Nat,k=n:=⟨k.toNat,by omega⟩
 obtain⟨R,rfl⟩:∃n:Nat,r=n:=⟨r.toNat,by omega⟩
 refine⟨⟨hk,hr,?_⟩,h2.1.1,fun t ht=>jnG h2.2 t ht⟩
 rw[←Int.natCast_mul]at hl
 simp only[Int.toNat_natCast]
 omega
theorem jgl {d:List Int}{s b:RS}{e:Int}(h1:jb5 s.k s.r s.L s.x s.y s.mo s.ti s.l=true) (h:goG d 9 0 { s with more:=s.l,a:=0 }=(e,b)) (he:e≠0):apG d s=(e,zeroR):=by
 unfold apG
 rw[if_neg (by rw[h1];decide),h,if_pos he]
theorem jom {d:List Int}{s b:RS}(h1:jb5 s.k s.r s.L s.x s.y s.mo s.ti s.l=true) (h:goG d 9 0 { s with more:=s.l,a:=0 }=(0,b)) (h2:jb5 b.k b.r b.L b.x b.y b.mo b.ti b.more=false):apG d s=(3,zeroR):=by
 unfold apG
 rw[if_neg (by rw[h1];decide),h,if_neg (fun q=>q rfl),if_pos h2]
theorem jsI {d:List Int}{s b:RS}(h1:jb5 s.k s.r s.L s.x s.y s.mo s.ti s.l=true) (h:goG d 9 0 { s with more:=s.l,a:=0 }=(0,b)) (h2:jb5 b.k b.r b.L b.x b.y b.mo b.ti b.more=true):apG d s=(0,b):=by
 unfold apG
 rw[if_neg (by rw[h1];decide),h,if_neg (fun q=>q rfl),if_neg (by rw[h2];decide)]
end
section
open Go.RowKit
set_option maxRecDepth 1000000
def tb18:List (KR Tryz.prog eqs0):=[.of jhp,.of jeP,.of jgH,.of jld,.of jhz,.of jpN,.of jfL,.of jfk,.of jcO,.of jfF,.of jeo,.of jiJ,.of jfG,.of jgG,.of jex,.of jbW,.of jcq,.of jfO,.of jho,.of jgh,.of jeN,.of jiP,.of jlD,.of jhy,.of jdB,.of ji4,.of jd2,.of jbF,.of jfP,.of jdq,.of jey,.of jtx,.of jpp,.of jq5,.of jq6,.of jgf,.of jfQ,.of jlB,.of jpL,.of jfH,.of jiO,.of jfM,.of jd1,.of jfR,.of jhq,.of jiZ,.of ji0,.of ji1,.of jlC,.of jrl,.of jpM,.of jmf,.of jiR,.of jlN]
def fz18:List FuncId:=[92,51,21,96,98,127,129,59,124,97,56,99,114,100,57,58,22,126,119,128,120,121,89,123,122,90,48,113,91,83,84,85,115,86,130,103,65,105,116,87,117,118,88,47,17,16,14,8]
set_option maxHeartbeats 4000000 in
theorem ev18:(evF E0 (tb18.map KR.r) [] fz18 200 (19+1) 8 [] []).map (·.1)=some (.ret (.bool true)):=by kernel_rfl
theorem jtG:TF Tryz.prog E0 8 [] [] (.ret (.bool true)) []:=Alias.run tb18 _ 200 19 ev18
end
end Go.Proofs.YtcfkfgkndncanaaGreatDoor
