/- Texts of this claim, merged by a program of this claim: KRunsD, KDefer, FApply5. -/
import Derived.Test.YtienkkicehmchaaGreatDoorDo15
import Derived.Test.YtienkkicehmchaaGreatDoorDo23
import Derived.Test.YtienkkicehmchaaGreatDoorDo6
namespace Go.Proofs.YtienkkicehmchaaGreatDoor
open And renaming intro→qaa
open Cos renaming intro→qab
noncomputable section
set_option linter.unusedVariables false
set_option linter.unusedSimpArgs false
section
open Go.RowKit
set_option maxRecDepth 100000
def z123_7:LC:=.seq (.stm [4,5,6,7,28] [kM 23 6,sd 24 (.nilck 23),kF 25 24 0,kL 26 1 25,sd 27 (.call 147 [26]),sd 28 (.cmp .gtr 27 (ki 0))]) (.cond 28 .skip (.exit 0))
def z123_13:LC:=.cond 41 (.stm [4,5,6,8] [sd 42 (.mkif 29 (ki 3)),sn (.panic 42)]) .skip
def z123_12:LC:=.seq (.stm [4,5,6,8,41] [kM 35 8,kM 36 7,sd 37 (.cmp .leq 35 36),kM 38 37,.g 38 false [kM 39 8,sd 40 (.cmp .gtr 39 (ki 5))] 41 kt 40]) z123_13
def z123_14:LC:=.seq (.stm [4,5,6,7,8] [kM 43 8,kM 7 43]) (.stm [4,5,6,7] [kM 44 6,kM 45 8,sd 46 (.call 148 [44,45])])
def z123_10:LC:=.seq (.stm [4,5,6,7,8] [kM 29 6,sd 30 (.nilck 29),kF 31 30 0,kL 32 1 31,sd 33 (.call 139 [32,(ki 1)]),sd 34 (.conv .i64 true 33),kM 8 34]) (.seq z123_12 z123_14)
def z123_5:LC:=.loop (.seq z123_7 (.block 1 z123_10))
def z123_18:LC:=.seq (.stm [4,5] [sd 53 (.build [.int .i64 0,.int .i64 0,.nils,.int .i64 0,.int .i64 0,.bool false,.int .u8 0,.str (bs []),.nils] []),sn (.store 9 4 53),sn (.store 1 5 (ki 3))]) .ret
def z123_16:LC:=.seq (.stm [4,5,6,52] [kM 47 6,sd 48 (.nilck 47),kF 49 48 1,sd 50 (.load true 9 49),sd 51 (.call 102 [50]),sd 52 (.un .not 51)]) (.cond 52 z123_18 .skip)
def z123_19:LC:=.seq (.stm [4,5] [kM 54 6,sd 55 (.nilck 54),kF 56 55 1,sd 57 (.load true 9 56),sn (.store 9 4 57),sn (.store 1 5 (ki 0))]) .ret
def z123_2:LC:=.seq (.seq (.stm [4,5,6,7] [kM 7 (ki 0)]) (.block 0 z123_5)) (.seq z123_16 z123_19)
def z123_1:LC:=.seq (.reg [4,5,6] [kR 0 18 (.mov 1),kR 2 20 (.load true 9 2),⟨1,some 19,none,.call 137 [18],true,true⟩,kR 3 21 (.build [.nilptr,.int .i64 0,.int .i64 0,.nils,.int .i64 0,.int .i64 0,.bool false,.int .u8 0,.str (bs []),.nils] [(0,1,19),(1,9,20)]),kR 4 22 (.box 21),kR 5 6 (.mov 22)]) z123_2
def z123_0:LC:=.seq (.stm [1,2,4,5] [kF 14 2 2,kL 15 1 14,sd 16 (.call 42 [15]),kF 17 2 2,sn (.store 1 17 16)]) z123_1
def z123_22:LC:=.seq (.stm [4,5] [sd 12 (.build [.int .i64 0,.int .i64 0,.nils,.int .i64 0,.int .i64 0,.bool false,.int .u8 0,.str (bs []),.nils] []),sn (.store 9 4 12),sn (.store 1 5 (ki 1))]) .ret
def z123_20:LC:=.seq (.stm [1,2,4,5,11] [sd 9 (.load true 9 2),sd 10 (.call 102 [9]),sd 11 (.un .not 10)]) (.cond 11 z123_22 .skip)
def z123:LD:=.pre (.stm [1,2,4,5] [sd 2 (.box 0),sd 4 (.zero [.int .i64 0,.int .i64 0,.nils,.int .i64 0,.int .i64 0,.bool false,.int .u8 0,.str (bs []),.nils]),sd 5 (.zero [.int .i64 0])]) (.pre z123_20 (.dfr 13 146 [4,5] 6 z123_0))
theorem jiN:jjJ Tryz.prog eqs0 105 z123 [.c 4 true 9,.c 5 false 1] 58=true:=by kernel_rfl
def z124_4:LC:=.seq (.stm [0,1,3,14] [kM 13 4,sd 14 (.un .not 13)]) (.cond 14 (.stm [0,1,3] [kM 3 (ki 3)]) .skip)
def z124_3:LC:=.seq z124_4 (.stm [] [sd 15 (.build [.int .i64 0,.int .i64 0,.nils,.int .i64 0,.int .i64 0,.bool false,.int .u8 0,.str (bs []),.nils] []),kM 16 3,sn (.store 9 0 15),sn (.store 1 1 16)])
def z124_2:LC:=.seq (.stm [0,1,3,4] [kM 9 2,sd 10 (.tas 29 true (.int .i64 0) 9),kM 8 10,sd 11 (.ext 8 0),sd 12 (.ext 8 1),kM 3 11,kM 4 12]) z124_3
def z124_0:LC:=.seq (.stm [0,1,2,7] [kM 6 2,sd 7 (.cmpN 2 true 6)]) (.cond 7 z124_2 .skip)
def z124:LC:=z124_0
abbrev jgl:FuncId:=146
theorem jgm:jqc Tryz.prog eqs0 146 5 2 z124 17=true:=by kernel_rfl
end
section
open Go.RowKit
set_option maxRecDepth 100000
def z125_7:LC:=.seq (.stm [4,5,6,7,34] [kM 29 6,sd 30 (.nilck 29),kF 31 30 0,kL 32 1 31,sd 33 (.call 147 [32]),sd 34 (.cmp .gtr 33 (ki 0))]) (.cond 34 .skip (.exit 0))
def z125_13:LC:=.cond 47 (.stm [4,5,6,8] [sd 48 (.mkif 29 (ki 3)),sn (.panic 48)]) .skip
def z125_12:LC:=.seq (.stm [4,5,6,8,47] [kM 41 8,kM 42 7,sd 43 (.cmp .leq 41 42),kM 44 43,.g 44 false [kM 45 8,sd 46 (.cmp .gtr 45 (ki 8))] 47 kt 46]) z125_13
def z125_14:LC:=.seq (.stm [4,5,6,7,8] [kM 49 8,kM 7 49]) (.stm [4,5,6,7] [kM 50 6,kM 51 8,sd 52 (.call 152 [50,51])])
def z125_10:LC:=.seq (.stm [4,5,6,7,8] [kM 35 6,sd 36 (.nilck 35),kF 37 36 0,kL 38 1 37,sd 39 (.call 139 [38,(ki 1)]),sd 40 (.conv .i64 true 39),kM 8 40]) (.seq z125_12 z125_14)
def z125_5:LC:=.loop (.seq z125_7 (.block 1 z125_10))
def z125_19:LC:=.seq (.stm [4,5] [sd 67 (.build [.int .i64 0,.int .i64 0,.nils,.int .i64 0,.int .i64 0,.bool false,.int .u8 0,.str (bs []),.nils] []),sn (.store 9 4 67),sn (.store 1 5 (ki 3))]) .ret
def z125_17:LC:=.seq (.stm [4,5,6,66] [kM 61 6,sd 62 (.nilck 61),kF 63 62 1,sd 64 (.load true 9 63),sd 65 (.call 41 [64]),sd 66 (.un .not 65)]) (.cond 66 z125_19 .skip)
def z125_20:LC:=.seq (.stm [4,5] [kM 68 6,sd 69 (.nilck 68),kF 70 69 1,sd 71 (.load true 9 70),sn (.store 9 4 71),sn (.store 1 5 (ki 0))]) .ret
def z125_15:LC:=.seq (.stm [4,5,6] [kM 53 6,kM 54 6,sd 55 (.nilck 54),kF 56 55 10,kL 57 1 56,sd 58 (.nilck 53),kF 59 58 1,kF 60 59 8,sn (.store 1 60 57)]) (.seq z125_17 z125_20)
def z125_2:LC:=.seq (.seq (.stm [4,5,6,7] [kM 7 (ki 0)]) (.block 0 z125_5)) z125_15
def z125_1:LC:=.seq (.reg [4,5,6] [kR 0 22 (.mov 1),kR 2 24 (.load true 9 2),kR 3 25 (.fa 2 8),kR 4 26 (.ld 1 25),⟨1,some 23,none,.call 137 [22],true,true⟩,kR 5 27 (.build [.nilptr,.int .i64 0,.int .i64 0,.nils,.int .i64 0,.int .i64 0,.bool false,.int .u8 0,.str (bs []),.nils,.nils] [(0,1,23),(1,9,24),(10,1,26)]),kR 6 28 (.box 27),kR 7 6 (.mov 28)]) z125_2
def z125_0:LC:=.seq (.reg [1,2,4,5] [kR 0 14 (.fa 2 2),kR 1 15 (.ld 1 14),kR 3 17 (.fa 2 8),kR 4 18 (.ld 1 17),⟨2,some 16,none,.call 42 [15],true,true⟩,kR 6 20 (.fa 2 2),⟨5,some 19,none,.call 43 [18],false,true⟩,⟨7,none,none,.store 1 20 16,false,true⟩,kR 8 21 (.fa 2 8),⟨9,none,none,.store 1 21 19,false,true⟩]) z125_1
def z125_23:LC:=.seq (.stm [4,5] [sd 12 (.build [.int .i64 0,.int .i64 0,.nils,.int .i64 0,.int .i64 0,.bool false,.int .u8 0,.str (bs []),.nils] []),sn (.store 9 4 12),sn (.store 1 5 (ki 1))]) .ret
def z125_21:LC:=.seq (.stm [1,2,4,5,11] [sd 9 (.load true 9 2),sd 10 (.call 41 [9]),sd 11 (.un .not 10)]) (.cond 11 z125_23 .skip)
def z125:LD:=.pre (.stm [1,2,4,5] [sd 2 (.box 0),sd 4 (.zero [.int .i64 0,.int .i64 0,.nils,.int .i64 0,.int .i64 0,.bool false,.int .u8 0,.str (bs []),.nils]),sd 5 (.zero [.int .i64 0])]) (.pre z125_21 (.dfr 13 151 [4,5] 6 z125_0))
theorem jhJ:jjJ Tryz.prog eqs0 108 z125 [.c 4 true 9,.c 5 false 1] 72=true:=by kernel_rfl
def z126_4:LC:=.seq (.stm [0,1,3,14] [kM 13 4,sd 14 (.un .not 13)]) (.cond 14 (.stm [0,1,3] [kM 3 (ki 3)]) .skip)
def z126_3:LC:=.seq z126_4 (.stm [] [sd 15 (.build [.int .i64 0,.int .i64 0,.nils,.int .i64 0,.int .i64 0,.bool false,.int .u8 0,.str (bs []),.nils] []),kM 16 3,sn (.store 9 0 15),sn (.store 1 1 16)])
def z126_2:LC:=.seq (.stm [0,1,3,4] [kM 9 2,sd 10 (.tas 29 true (.int .i64 0) 9),kM 8 10,sd 11 (.ext 8 0),sd 12 (.ext 8 1),kM 3 11,kM 4 12]) z126_3
def z126_0:LC:=.seq (.stm [0,1,2,7] [kM 6 2,sd 7 (.cmpN 2 true 6)]) (.cond 7 z126_2 .skip)
def z126:LC:=z126_0
abbrev jfK:FuncId:=151
theorem jfL:jqc Tryz.prog eqs0 151 5 2 z126 17=true:=by kernel_rfl
end
section
open Go.RowKit
set_option maxRecDepth 100000
set_option maxHeartbeats 4000000
theorem jfM {k r:Int}{L:List CD}{x y mo:Int}{ti:ByteArray}{l:List ByteArray}(h:jal k r L x y mo ti l=true):jbo k r L=true:=by
 unfold jal at h
 simp only[HB,ne_eq,reduceCtorEq]at h
 exact h.1.1.1.1.1.1.1.1
abbrev jsu:List CV:=[.int .i64 0,.int .i64 0,.nils,.int .i64 0,.int .i64 0,.bool false,.int .u8 0,.str (bs []),.nils]
theorem jBb (x y:CV) (h:KH):Clo Tryz.prog E0 jfK [x,y] .niliface h h:=by
 refine Clo.intro (V:=VV [] GOk.nil 17 h.length) jfL rfl rfl ?_
 repeat' first|simp only[PB,SAM,seval,rdB,Hk.out zc,tq0,tq1,tq2]|refine tU ?_|refine qaa ?_ ?_|(refine tI ?_;intro hyp)|intro hyp0|exact tZ|omega
theorem jvw (A:KB) (c:CV) (rest:KH) (no:Int):Clo Tryz.prog E0 jfK [.ptr 1 0 0,.ptr 2 0 0] (errV no) (A :: .box jsu :: .box [c]::rest) (A :: .box jsu :: .box [.int .i64 no]::rest):=by
 refine Clo.intro (V:=VV [] GOk.nil 17 (A :: .box jsu :: .box [c]::rest).length) jfL rfl rfl ?_
 repeat' first|simp only[PB,SAM,seval,rdB,Hk.out zc,tq0,tq1,tq2]|refine tU ?_|refine qaa ?_ ?_|(refine tI ?_;intro hyp)|intro hyp0|exact tZ|omega
theorem jlT {k r:Int}{L:List CD}{x y mo:Int}{ti:ByteArray}{l:List ByteArray}(h:jal k r L x y mo ti l=true):Szd k r L∧l.length≤16∧∀c∈L,c.link≤l.length:=by
 have hg:=jfM h
 obtain⟨hk,hr,hl,_⟩:=jfX hg
 unfold jal at h
 simp only[Bool.and_eq_true,decide_eq_true_eq]at h
 obtain⟨⟨⟨⟨⟨⟨⟨⟨h1,h2⟩,h3⟩,h4⟩,h5⟩,h6⟩,h7⟩,h8⟩,h9⟩:=h
 unfold jbu at h2
 simp only[Bool.and_eq_true,decide_eq_true_eq]at h2
 obtain⟨K,rfl⟩:∃n:Nat,k=n:=⟨k.toNat,by omega⟩
 obtain⟨R,rfl⟩:∃n:Nat,r=n:=⟨r.toNat,by omega⟩
 refine⟨⟨hk,hr,?_⟩,h2.1.1,fun t ht=>ji4 h2.2 t ht⟩
 rw[←Int.natCast_mul]at hl
 simp only[Int.toNat_natCast]
 omega
theorem jvx {d:List Int}{s b:RS}{e:Int}(h1:jal s.k s.r s.L s.x s.y s.mo s.ti s.l=true) (h:goG d 9 0 { s with more:=s.l,a:=0 }=(e,b)) (he:e≠0):apG d s=(e,jkV):=by
 unfold apG
 rw[if_neg (by rw[h1];decide),h,if_pos he]
theorem jAb {d:List Int}{s b:RS}(h1:jal s.k s.r s.L s.x s.y s.mo s.ti s.l=true) (h:goG d 9 0 { s with more:=s.l,a:=0 }=(0,b)) (h2:jal b.k b.r b.L b.x b.y b.mo b.ti b.more=false):apG d s=(3,jkV):=by
 unfold apG
 rw[if_neg (by rw[h1];decide),h,if_neg (fun q=>q rfl),if_pos h2]
theorem jvy {d:List Int}{s b:RS}(h1:jal s.k s.r s.L s.x s.y s.mo s.ti s.l=true) (h:goG d 9 0 { s with more:=s.l,a:=0 }=(0,b)) (h2:jal b.k b.r b.L b.x b.y b.mo b.ti b.more=true):apG d s=(0,b):=by
 unfold apG
 rw[if_neg (by rw[h1];decide),h,if_neg (fun q=>q rfl),if_neg (by rw[h2];decide)]
abbrev jxG:List AK:=[.agg [.any,.any,.sl .cell,.any,.any,.any,.any,.any,.sl .str],.sl (.int .u8)]
abbrev q_apply (k r:Int) (L:List CD) (x y:Int) (hd:Bool) (mo:Int) (ti:ByteArray) (l:List ByteArray) (d:List Int):QA:=([.agg [.int .i64 k,.int .i64 r,.vec .cell L,.int .i64 x,.int .i64 y,.bool hd,.int .u8 mo,.str ti,.vec .str l],.vec (.int .u8) d],ScrOk L l∧SLen ti∧(∀c∈L,CWf c)∧d.length≤1000000∧Bts d,.ret (.tup [.agg [.int .i64 (apG d ⟨k,r,L,x,y,hd,mo,ti,l,[],0⟩).2.k,.int .i64 (apG d ⟨k,r,L,x,y,hd,mo,ti,l,[],0⟩).2.r,.vec .cell (apG d ⟨k,r,L,x,y,hd,mo,ti,l,[],0⟩).2.L,.int .i64 (apG d ⟨k,r,L,x,y,hd,mo,ti,l,[],0⟩).2.x,.int .i64 (apG d ⟨k,r,L,x,y,hd,mo,ti,l,[],0⟩).2.y,.bool (apG d ⟨k,r,L,x,y,hd,mo,ti,l,[],0⟩).2.hd,.int .u8 (apG d ⟨k,r,L,x,y,hd,mo,ti,l,[],0⟩).2.mo,.str (apG d ⟨k,r,L,x,y,hd,mo,ti,l,[],0⟩).2.ti,.vec .str (apG d ⟨k,r,L,x,y,hd,mo,ti,l,[],0⟩).2.more],.int .i64 (apG d ⟨k,r,L,x,y,hd,mo,ti,l,[],0⟩).1]))
def sp_apply:=spQ (u10 q_apply)
theorem jpJ:W10 (hA sp_apply) q_apply:=w10 (aA rfl)
theorem jxH:Al 108 sp_apply:=ofA (u10 q_apply) fun⟨k,r,L,x,y,hd,mo,ti,l,d⟩ hG=>tfd (.f jep jbG jeq (.t [.sl .cell] jau jdM (.t [.sl .str] jbF jnR (.m jfZ jpv (.m jbv jmT (.m ja2 jqG (.p jcM jxp .nil))))))) 0 jhJ (by
 dsimp only[u10,q_apply]at hG ⊢
 have zc:=Hk.mk (qaa @jb2 (qaa @jbz (qaa @jiB (qaa @jgO (qaa @jfC (qaa @jiI (qaa @jol (qaa @tq0 (qaa @tq1 @tq2)))))))))
 obtain⟨hsc,hti,hwf,hdl,hb⟩:=hG
 have hw:=qaa hsc hti
 refine TD.pre rfl ?_
 repeat' first|refine tU ?_|refine qaa ?_ ?_|(refine tI ?_;intro hyp)|intro hyp0|exact tZ|omega
 refine TD.pre rfl ?_
 repeat' first|exact hsc|refine tU ?_|refine qaa ?_ ?_|(refine tI ?_;intro hyp)|intro hyp0|exact tZ|omega
 ·have hW:apG d ⟨k,r,L,x,y,hd,mo,ti,l,[],0⟩=(1,jkV):=if_pos hyp
  rw[hW]
  refine qab [] [0,1,2,3,4,5,6,7,8,9] rfl ?_
  simp only[PB,SAM,seval,rdB,Hk.out zc]
  simp[jkV,jaM]
 ·obtain⟨hk,hr,hl,hle⟩:=jfX (jfM hyp)
  have hl7:l.length≤1000000:=by
   have:=hsc.links
   omega
  have hl6:L.length≤1000000:=by omega
  refine TD.dfr [.ptr 1 0 0,.ptr 2 0 0] rfl rfl (fun h=>jBb _ _ h) (fun D=>?_)
  repeat' first|exact hl6|exact hl7|exact hdl|refine tU ?_|refine qaa ?_ ?_|(refine tI ?_;intro hyp)|intro hyp0|exact tZ|omega
  generalize hW:goG d 9 0 ⟨k,r,L,x,y,hd,mo,ti,l,l,0⟩=W
  refine T.loop (fun q:Nat×Int×RS=>⟨[(4,.ptr 1 0 0),(5,.ptr 2 0 0),(6,.ptr 3 0 0),(7,.int .i64 q.2.1)],[.dead,.box [.int .i64 0,.int .i64 0,.nils,.int .i64 0,.int .i64 0,.bool false,.int .u8 0,.str (bs []),.nils],.box [.int .i64 0],.box [.ptr 4 0 0,.int .i64 q.2.2.k,.int .i64 q.2.2.r,.slice 5 0 6 q.2.2.L.length q.2.2.L.length,.int .i64 q.2.2.x,.int .i64 q.2.2.y,.bool q.2.2.hd,.int .u8 q.2.2.mo,.str q.2.2.ti,.vec .str q.2.2.l,.vec .str q.2.2.more],rdr d q.2.2.a 0,.seq .cell q.2.2.L]⟩) (fun q=>8-q.2.1<q.1∧(0≤q.2.1∧q.2.1≤8)∧Kept d q.2.1 q.2.2∧goG d q.1 q.2.1 q.2.2=W) (fun q=>q.1) (9,0,⟨k,r,L,x,y,hd,mo,ti,l,l,0⟩) ?_ (qab [0,1,2,6,5,3] [4] rfl (by exact tF)) (fun q hq=>?_)
  ·obtain⟨hz,h16,hlk⟩:=jlT hyp
   exact⟨by dsimp only;omega,⟨by dsimp only;omega,by dsimp only;omega⟩,⟨⟨Nat.zero_le _,hdl,hb⟩,hz,h16,h16,hwf,fun _=>hlk,fun _=>jfM hyp,hsc.slen,hti,hsc.slen⟩,hW⟩
  ·obtain⟨f,last,s⟩:=q
   obtain⟨hf,⟨h0,h8⟩,hK,hg⟩:=hq
   dsimp only at hf h0 h8 hK hg
   cases f with
   | zero=>omega
   | succ f =>
    simp only[goG]at hg
    have hrd:=hK.rd
    by_cases ha:d.length≤s.a
    ·rw[if_pos ha]at hg
     subst hg
     have hsk:ScrOk s.L s.more:=⟨hK.wf,by have:=hK.sz.le;omega,by have:=hK.nm;omega,hK.sl⟩
     by_cases hR:jal s.k s.r s.L s.x s.y s.mo s.ti s.more=true
     ·rw[jvy (d:=d) (s:=⟨k,r,L,x,y,hd,mo,ti,l,[],0⟩) hyp hW hR]
      have hw:=hR
      repeat' first|exact hrd.1|exact hdl|exact hsk|exact hK.st|refine tU ?_|refine qab [] [0,1,2,3,4,5,6,7,8,9] rfl ?_|refine qaa ?_ ?_|(refine tI ?_;intro hyp)|intro hyp0|exact tZ|omega
     ·have hR2:=Bool.eq_false_iff.2 hR
      rw[jAb (d:=d) (s:=⟨k,r,L,x,y,hd,mo,ti,l,[],0⟩) hyp hW hR2]
      have hw:=hR2
      repeat' first|exact hrd.1|exact hdl|exact hsk|exact hK.st|refine tU ?_|refine qab [] [0,1,2,3,4,5,6,7,8,9] rfl ?_|refine qaa ?_ ?_|(refine tI ?_;intro hyp)|intro hyp0|exact tZ|omega
      all_goals (simp[jkV,jaM])
    ·rw[if_neg ha]at hg
     obtain⟨kd,hkd⟩:∃kd,d.getD s.a 0=kd:=⟨_,rfl⟩
     rw[hkd]at hg
     have hln:s.a<d.length:=by omega
     have hkb:0≤kd∧kd<256:=by
      rw[←hkd]
      exact hrd.2.2 _ (jaX (d:=0) hln)
     by_cases h9:kd≤last∨8<kd
     ·rw[if_pos h9]at hg
      subst hg
      rw[jvx (d:=d) (s:=⟨k,r,L,x,y,hd,mo,ti,l,[],0⟩) hyp hW (by decide)]
      have hw:=qaa hkd (jf7 (n:=kd) (by omega))
      repeat' first|exact hrd.1|exact hdl|exact hln|exact hb|refine tU ?_|refine qaa ?_ ?_|(refine tI ?_;intro hyp)|intro hyp0|exact tZ|omega
      refine⟨_,jvw _ _ _ _,?_⟩
      repeat' first|refine tU ?_|refine qab [] [0,1,2,3,4,5,6,7,8,9] rfl ?_|refine qaa ?_ ?_|(refine tI ?_;intro hyp)|intro hyp0|exact tZ|omega
      all_goals (simp[jkV,jaM])
     ·rw[if_neg h9]at hg
      have hK2:=hK.next hln
      obtain⟨⟨k1,k2⟩,⟨r1,r2⟩,hLl⟩:=hK.sz
      have hnl:=hK.nl
      have hnm:=hK.nm
      have hth:RdOk d (s.a+1)∧Szd s.k s.r s.L∧(s.l.length≤16∧s.more.length≤16)∧(∀c∈s.L,CWf c)∧(kd≤5→∀c∈s.L,c.link≤s.l.length)∧(kd≤6→jbo s.k s.r s.L=true)∧(1≤kd∧kd≤8):=⟨hK2.rd,hK.sz,⟨hK.nl,hK.nm⟩,hK.wf,fun q=>hK.lk (by omega),fun q=>hK.gr (by omega),by omega,by omega⟩
      by_cases he:(thG d kd { s with a:=s.a+1 }).1=0
      ·rw[if_neg (by rw[he];decide)]at hg
       have hK3:=jA0 hK2 (show last<kd by omega) (by omega) he
       have hw:=qaa hkd (qaa (jf7 (n:=kd) (by omega)) he)
       repeat' first|exact hrd.1|exact hdl|exact hln|exact hb|exact hth.1|exact hLl|exact hK.wf _ ‹_›|exact hth.2.2.2.2.1 (by assumption) _ ‹_›|exact hth.2.2.2.2.2.1 (by assumption)|refine tU ?_|refine qaa ?_ ?_|(refine tI ?_;intro hyp)|intro hyp0|exact tZ|omega
       exact⟨(f,kd,(thG d kd { s with a:=s.a+1 }).2),⟨by dsimp only;omega,⟨by dsimp only;omega,by dsimp only;omega⟩,hK3,hg⟩,Nat.lt_succ_self _,qab [0,1,2,3,4,6] [] rfl (by exact tF)⟩
      ·rw[if_pos he]at hg
       subst hg
       rw[jvx (d:=d) (s:=⟨k,r,L,x,y,hd,mo,ti,l,[],0⟩) hyp hW he]
       have hw:=qaa hkd (qaa (jf7 (n:=kd) (by omega)) (eq_false he))
       repeat' first|exact hrd.1|exact hdl|exact hln|exact hb|exact hth.1|exact hLl|exact hK.wf _ ‹_›|exact hth.2.2.2.2.1 (by assumption) _ ‹_›|exact hth.2.2.2.2.2.1 (by assumption)|refine tU ?_|refine qaa ?_ ?_|(refine tI ?_;intro hyp)|intro hyp0|exact tZ|omega
       refine⟨_,jvw _ _ _ _,?_⟩
       repeat' first|refine tU ?_|refine qab [] [0,1,2,3,4,5,6,7,8,9] rfl ?_|refine qaa ?_ ?_|(refine tI ?_;intro hyp)|intro hyp0|exact tZ|omega
       all_goals (simp[jkV,jaM]))
end
end
end Go.Proofs.YtienkkicehmchaaGreatDoor
