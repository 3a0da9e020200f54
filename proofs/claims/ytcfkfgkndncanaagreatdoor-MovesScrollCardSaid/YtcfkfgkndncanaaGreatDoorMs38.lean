/- Texts of this claim, merged by a program of this claim: KDefer, FApply5. -/
import Derived.Test.YtcfkfgkndncanaaGreatDoorMs28
import Derived.Test.YtcfkfgkndncanaaGreatDoorMs37
import Derived.Test.YtcfkfgkndncanaaGreatDoorMs9
namespace Go.Proofs.YtcfkfgkndncanaaGreatDoor
set_option linter.unusedVariables false
set_option linter.unusedSimpArgs false
section
open Go.RowKit
set_option maxRecDepth 100000
def z98_8:LC:=.cond 34 .skip (.exit 0)
def z98_7:LC:=.seq (.stm [4,5,6,7,34] [kM 29 6,sd 30 (.nilck 29),kF 31 30 0,kL 32 1 31,sd 33 (.call 27 [32]),sd 34 (.cmp .gtr 33 (ki 0))]) z98_8
def z98_13:LC:=.cond 47 (.stm [4,5,6,8] [sd 48 (.mkif 31 (ki 3)),sn (.panic 48)]) .skip
def z98_12:LC:=.seq (.stm [4,5,6,8,47] [kM 41 8,kM 42 7,sd 43 (.cmp .leq 41 42),kM 44 43,.g 44 false [kM 45 8,sd 46 (.cmp .gtr 45 (ki 8))] 47 kt 46]) z98_13
def z98_14:LC:=.seq (.stm [4,5,6,7,8] [kM 49 8,kM 7 49]) (.stm [4,5,6,7] [kM 50 6,kM 51 8,sd 52 (.call 29 [50,51])])
def z98_11:LC:=.seq z98_12 z98_14
def z98_10:LC:=.seq (.stm [4,5,6,7,8] [kM 35 6,sd 36 (.nilck 35),kF 37 36 0,kL 38 1 37,sd 39 (.call 28 [38,(ki 1)]),sd 40 (.conv .i64 true 39),kM 8 40]) z98_11
def z98_9:LC:=.block 1 z98_10
def z98_6:LC:=.seq z98_7 z98_9
def z98_5:LC:=.loop z98_6
def z98_4:LC:=.block 0 z98_5
def z98_3:LC:=.seq (.stm [4,5,6,7] [kM 7 (ki 0)]) z98_4
def z98_19:LC:=.seq (.stm [4,5] [sd 67 (.build [.int .i64 0,.int .i64 0,.nils,.int .i64 0,.int .i64 0,.bool false,.int .u8 0,.str (bs []),.nils] []),sn (.store 9 4 67),sn (.store 1 5 (ki 3))]) .ret
def z98_18:LC:=.cond 66 z98_19 .skip
def z98_17:LC:=.seq (.stm [4,5,6,66] [kM 61 6,sd 62 (.nilck 61),kF 63 62 1,sd 64 (.load true 9 63),sd 65 (.call 22 [64]),sd 66 (.un .not 65)]) z98_18
def z98_20:LC:=.seq (.stm [4,5] [kM 68 6,sd 69 (.nilck 68),kF 70 69 1,sd 71 (.load true 9 70),sn (.store 9 4 71),sn (.store 1 5 (ki 0))]) .ret
def z98_16:LC:=.seq z98_17 z98_20
def z98_15:LC:=.seq (.stm [4,5,6] [kM 53 6,kM 54 6,sd 55 (.nilck 54),kF 56 55 10,kL 57 1 56,sd 58 (.nilck 53),kF 59 58 1,kF 60 59 8,sn (.store 1 60 57)]) z98_16
def z98_2:LC:=.seq z98_3 z98_15
def z98_1:LC:=.seq (.reg [4,5,6] [kR 0 22 (.mov 1),kR 2 24 (.load true 9 2),kR 3 25 (.fa 2 8),kR 4 26 (.ld 1 25),⟨1,some 23,none,.call 26 [22],true,true⟩,kR 5 27 (.build [.nilptr,.int .i64 0,.int .i64 0,.nils,.int .i64 0,.int .i64 0,.bool false,.int .u8 0,.str (bs []),.nils,.nils] [(0,1,23),(1,9,24),(10,1,26)]),kR 6 28 (.box 27),kR 7 6 (.mov 28)]) z98_2
def z98_0:LC:=.seq (.reg [1,2,4,5] [kR 0 14 (.fa 2 2),kR 1 15 (.ld 1 14),kR 3 17 (.fa 2 8),kR 4 18 (.ld 1 17),⟨2,some 16,none,.call 24 [15],true,true⟩,kR 6 20 (.fa 2 2),⟨5,some 19,none,.call 25 [18],false,true⟩,⟨7,none,none,.store 1 20 16,false,true⟩,kR 8 21 (.fa 2 8),⟨9,none,none,.store 1 21 19,false,true⟩]) z98_1
def z98_23:LC:=.seq (.stm [4,5] [sd 12 (.build [.int .i64 0,.int .i64 0,.nils,.int .i64 0,.int .i64 0,.bool false,.int .u8 0,.str (bs []),.nils] []),sn (.store 9 4 12),sn (.store 1 5 (ki 1))]) .ret
def z98_22:LC:=.cond 11 z98_23 .skip
def z98_21:LC:=.seq (.stm [1,2,4,5,11] [sd 9 (.load true 9 2),sd 10 (.call 22 [9]),sd 11 (.un .not 10)]) z98_22
def z98:LD:=.pre (.stm [1,2,4,5] [sd 2 (.box 0),sd 4 (.zero [.int .i64 0,.int .i64 0,.nils,.int .i64 0,.int .i64 0,.bool false,.int .u8 0,.str (bs []),.nils]),sd 5 (.zero [.int .i64 0])]) (.pre z98_21 (.dfr 13 23 [4,5] 6 z98_0))
theorem jhZ:joA Tryz.prog eqs0 11 z98 [.c 4 true 9,.c 5 false 1] 72=true:=by kernel_rfl
def z99_5:LC:=.cond 14 (.stm [0,1,3] [kM 3 (ki 3)]) .skip
def z99_4:LC:=.seq (.stm [0,1,3,14] [kM 13 4,sd 14 (.un .not 13)]) z99_5
def z99_3:LC:=.seq z99_4 (.stm [] [sd 15 (.build [.int .i64 0,.int .i64 0,.nils,.int .i64 0,.int .i64 0,.bool false,.int .u8 0,.str (bs []),.nils] []),kM 16 3,sn (.store 9 0 15),sn (.store 1 1 16)])
def z99_2:LC:=.seq (.stm [0,1,3,4] [kM 9 2,sd 10 (.tas 31 true (.int .i64 0) 9),kM 8 10,sd 11 (.ext 8 0),sd 12 (.ext 8 1),kM 3 11,kM 4 12]) z99_3
def z99_1:LC:=.cond 7 z99_2 .skip
def z99_0:LC:=.seq (.stm [0,1,2,7] [kM 6 2,sd 7 (.cmpN 2 true 6)]) z99_1
def z99:LC:=z99_0
abbrev jgr:FuncId:=23
theorem jgs:juC Tryz.prog eqs0 23 5 2 z99 17=true:=by kernel_rfl
end
section
open Go.RowKit
set_option maxRecDepth 100000
set_option maxHeartbeats 4000000
theorem jlu {k r:Int}{L:List CD}{x y mo:Int}{ti:ByteArray}{l:List ByteArray}(h:ja6 k r L x y mo ti l=true):jbM k r L=true:=by
 unfold ja6 at h
 simp only[HB,ne_eq,reduceCtorEq]at h
 exact h.1.1.1.1.1.1.1.1
abbrev jBj:List CV:=[.int .i64 0,.int .i64 0,.nils,.int .i64 0,.int .i64 0,.bool false,.int .u8 0,.str (bs []),.nils]
theorem jCi (x y:CV) (h:KH):Clo Tryz.prog E0 jgr [x,y] .niliface h h:=by
 refine Clo.intro (V:=VV [] GOk.nil 17 h.length) jgs rfl rfl ?_
 repeat' first|simp only[PB,SA,seval,rdB,tq0,tq1,tq2]|refine tT ?_|refine And.intro ?_ ?_|exact tC|(refine tI ?_;intro hyp)|intro hyp0|omega
theorem jw7 (A:KB) (c:CV) (rest:KH) (no:Int):Clo Tryz.prog E0 jgr [.ptr 1 0 0,.ptr 2 0 0] (errV no) (A :: .box jBj :: .box [c]::rest) (A :: .box jBj :: .box [.int .i64 no]::rest):=by
 refine Clo.intro (V:=VV [] GOk.nil 17 (A :: .box jBj :: .box [c]::rest).length) jgs rfl rfl ?_
 repeat' first|simp only[PB,SA,seval,rdB,tq0,tq1,tq2]|refine tT ?_|refine And.intro ?_ ?_|exact tC|(refine tI ?_;intro hyp)|intro hyp0|omega
theorem jtG {k r:Int}{L:List CD}{x y mo:Int}{ti:ByteArray}{l:List ByteArray}(h:ja6 k r L x y mo ti l=true):Szd k r L∧l.length≤16∧∀c∈L,c.link≤l.length:=by
 have hg:=jlu h
 obtain⟨hk,hr,hl,_⟩:=jiK hg
 unfold ja6 at h
 simp only[Bool.and_eq_true,decide_eq_true_eq]at h
 obtain⟨⟨⟨⟨⟨⟨⟨⟨h1,h2⟩,h3⟩,h4⟩,h5⟩,h6⟩,h7⟩,h8⟩,h9⟩:=h
 unfold jb8 at h2
 simp only[Bool.and_eq_true,decide_eq_true_eq]at h2
 obtain⟨K,rfl⟩:∃n:Nat,k=n:=⟨k.toNat,by omega⟩
 obtain⟨R,rfl⟩:∃n:Nat,r=n:=⟨r.toNat,by omega⟩
 refine⟨⟨hk,hr,?_⟩,h2.1.1,fun t ht=>jjC h2.2 t ht⟩
 rw[←Int.natCast_mul]at hl
 simp only[Int.toNat_natCast]
 omega
theorem jw8 {d:List Int}{s b:RS}{e:Int}(h1:ja6 s.k s.r s.L s.x s.y s.mo s.ti s.l=true) (h:goG d 9 0 { s with more:=s.l,a:=0 }=(e,b)) (he:e≠0):apG d s=(e,jlJ):=by
 unfold apG
 rw[if_neg (by rw[h1];decide),h,if_pos he]
theorem jBk {d:List Int}{s b:RS}(h1:ja6 s.k s.r s.L s.x s.y s.mo s.ti s.l=true) (h:goG d 9 0 { s with more:=s.l,a:=0 }=(0,b)) (h2:ja6 b.k b.r b.L b.x b.y b.mo b.ti b.more=false):apG d s=(3,jlJ):=by
 unfold apG
 rw[if_neg (by rw[h1];decide),h,if_neg (fun q=>q rfl),if_pos h2]
theorem jw9 {d:List Int}{s b:RS}(h1:ja6 s.k s.r s.L s.x s.y s.mo s.ti s.l=true) (h:goG d 9 0 { s with more:=s.l,a:=0 }=(0,b)) (h2:ja6 b.k b.r b.L b.x b.y b.mo b.ti b.more=true):apG d s=(0,b):=by
 unfold apG
 rw[if_neg (by rw[h1];decide),h,if_neg (fun q=>q rfl),if_neg (by rw[h2];decide)]
abbrev jq9 (k:Int) (r:Int) (L:List CD) (x:Int) (y:Int) (hd:Bool) (mo:Int) (ti:ByteArray) (l:List ByteArray) (d:List Int):List CV:=[.agg [.int .i64 k,.int .i64 r,.vec .cell L,.int .i64 x,.int .i64 y,.bool hd,.int .u8 mo,.str ti,.vec .str l],.vec (.int .u8) d]
abbrev jra (k:Int) (r:Int) (L:List CD) (x:Int) (y:Int) (hd:Bool) (mo:Int) (ti:ByteArray) (l:List ByteArray) (d:List Int):Prop×Res:=(ScrOk L l∧SLen ti∧(∀c∈L,CWf c)∧d.length≤1000000∧Bts d,.ret (.tup [.agg [.int .i64 (apG d ⟨k,r,L,x,y,hd,mo,ti,l,[],0⟩).2.k,.int .i64 (apG d ⟨k,r,L,x,y,hd,mo,ti,l,[],0⟩).2.r,.vec .cell (apG d ⟨k,r,L,x,y,hd,mo,ti,l,[],0⟩).2.L,.int .i64 (apG d ⟨k,r,L,x,y,hd,mo,ti,l,[],0⟩).2.x,.int .i64 (apG d ⟨k,r,L,x,y,hd,mo,ti,l,[],0⟩).2.y,.bool (apG d ⟨k,r,L,x,y,hd,mo,ti,l,[],0⟩).2.hd,.int .u8 (apG d ⟨k,r,L,x,y,hd,mo,ti,l,[],0⟩).2.mo,.str (apG d ⟨k,r,L,x,y,hd,mo,ti,l,[],0⟩).2.ti,.vec .str (apG d ⟨k,r,L,x,y,hd,mo,ti,l,[],0⟩).2.more],.int .i64 (apG d ⟨k,r,L,x,y,hd,mo,ti,l,[],0⟩).1]))
noncomputable def sp_apply:Spec:=spOf (α:=Int×Int×(List CD)×Int×Int×Bool×Int×ByteArray×(List ByteArray)×(List Int)) (fun⟨k,r,L,x,y,hd,mo,ti,l,d⟩=>jq9 k r L x y hd mo ti l d) fun⟨k,r,L,x,y,hd,mo,ti,l,d⟩=>jra k r L x y hd mo ti l d
theorem jcG (k:Int) (r:Int) (L:List CD) (x:Int) (y:Int) (hd:Bool) (mo:Int) (ti:ByteArray) (l:List ByteArray) (d:List Int):sp_apply (jq9 k r L x y hd mo ti l d)=some (jra k r L x y hd mo ti l d):=jak _ injS (k,r,L,x,y,hd,mo,ti,l,d)
theorem jy4:Alias Tryz.prog E0 11 sp_apply:=Alias.of fun⟨k,r,L,x,y,hd,mo,ti,l,d⟩ hG=>TFD.intro (V:=(VV [(22,conF [.agg [.any,.any,.sl .cell,.any,.any,.any,.any,.any,.sl .str]] sp_eright),(24,conT [.sl .cell] sp_clone),(25,conT [.sl .str] sp_sclone),(26,conM msp_wnew),(27,conM msp_wleft),(28,conM msp_wnum1),(29,conP jls esp_thing)] (.cons (jaa jdV) (Fresh.soundF jk7) (.cons (jaa ja7) (Fresh.soundT jgB) (.cons (jaa jcC) (Fresh.soundT jo2) (.cons (jaa jlU) (MutF.soundM jAC) (.cons (jaa jeR) (MutF.soundM jyl) (.cons (jaa jfh) (MutF.soundM jym) (.cons (jaa jdM) (MutP.soundP jy2) GOk.nil))))))) 72 0)) jhZ rfl rfl (by
 dsimp only[jq9,jra]at hG ⊢
 obtain⟨hsc,hti,hwf,hdl,hb⟩:=hG
 have hw:=And.intro hsc hti
 refine TD.pre rfl ?_
 repeat' first|simp only[PB,SA,MB,seval,rdB,jaG,jaf,jaN,jbx,jbh,jbi,jbl,jbm,tq0,tq1,tq2]|simp only[hw]|refine tT ?_|refine And.intro ?_ ?_|exact tC|(refine tI ?_;intro hyp)|intro hyp0|omega
 refine TD.pre rfl ?_
 repeat' first|exact hsc|simp only[PB,SA,MB,seval,rdB,jaG,jaf,jaN,jbx,jbh,jbi,jbl,jbm,tq0,tq1,tq2]|simp only[hw]|refine tT ?_|refine And.intro ?_ ?_|exact tC|(refine tI ?_;intro hyp)|intro hyp0|omega
 ·have hW:apG d ⟨k,r,L,x,y,hd,mo,ti,l,[],0⟩=(1,jlJ):=if_pos hyp
  rw[hW]
  refine Cos.intro [] [0,1,2,3,4,5,6,7,8,9] rfl ?_
  simp only[PB,SA,MB,seval,rdB,jaG,jaf,jaN,jbx,jbh,jbi,jbl,jbm,tq0,tq1,tq2]
  simp[jlJ,jct]
 ·obtain⟨hk,hr,hl,hle⟩:=jiK (jlu hyp)
  have hl7:l.length≤1000000:=by
   have:=hsc.links
   omega
  have hl6:L.length≤1000000:=by omega
  refine TD.dfr [.ptr 1 0 0,.ptr 2 0 0] rfl rfl (fun h=>jCi _ _ h) (fun D=>?_)
  repeat' first|exact hl6|exact hl7|exact hdl|simp only[PB,SA,MB,seval,rdB,jaG,jaf,jaN,jbx,jbh,jbi,jbl,jbm,tq0,tq1,tq2]|simp only[hw]|refine tT ?_|refine And.intro ?_ ?_|exact tC|(refine tI ?_;intro hyp)|intro hyp0|omega
  generalize hW:goG d 9 0 ⟨k,r,L,x,y,hd,mo,ti,l,l,0⟩=W
  refine T.loop (fun q:Nat×Int×RS=>⟨[(4,.ptr 1 0 0),(5,.ptr 2 0 0),(6,.ptr 3 0 0),(7,.int .i64 q.2.1)],[.dead,.box [.int .i64 0,.int .i64 0,.nils,.int .i64 0,.int .i64 0,.bool false,.int .u8 0,.str (bs []),.nils],.box [.int .i64 0],.box [.ptr 4 0 0,.int .i64 q.2.2.k,.int .i64 q.2.2.r,.slice 5 0 6 q.2.2.L.length q.2.2.L.length,.int .i64 q.2.2.x,.int .i64 q.2.2.y,.bool q.2.2.hd,.int .u8 q.2.2.mo,.str q.2.2.ti,.vec .str q.2.2.l,.vec .str q.2.2.more],rdr d q.2.2.a 0,.seq .cell q.2.2.L]⟩) (fun q=>8-q.2.1<q.1∧(0≤q.2.1∧q.2.1≤8)∧Kept d q.2.1 q.2.2∧goG d q.1 q.2.1 q.2.2=W) (fun q=>q.1) (9,0,⟨k,r,L,x,y,hd,mo,ti,l,l,0⟩) ?_ (Cos.intro [0,1,2,6,5,3] [4] rfl (by (simp only[PB,SA,MB,seval,rdB,jaG,jaf,jaN,jbx,jbh,jbi,jbl,jbm,tq0,tq1,tq2]<;>exact tE))) (fun q hq=>?_)
  ·obtain⟨hz,h16,hlk⟩:=jtG hyp
   exact⟨by dsimp only;omega,⟨by dsimp only;omega,by dsimp only;omega⟩,⟨⟨Nat.zero_le _,hdl,hb⟩,hz,h16,h16,hwf,fun _=>hlk,fun _=>jlu hyp,hsc.slen,hti,hsc.slen⟩,hW⟩
  ·obtain⟨f,last,s⟩:=q
   obtain⟨hf,⟨h0,h8⟩,hK,hg⟩:=hq
   dsimp only at hf h0 h8 hK hg
   cases f with
   | zero=>omega
   | succ f =>
    simp only[goG]at hg
    have hrd:=hK.rd
    by_cases ha:d.length≤s.a
    ·rw[if_pos ha]at hg
     subst hg
     have hsk:ScrOk s.L s.more:=⟨hK.wf,by have:=hK.sz.le;omega,by have:=hK.nm;omega,hK.sl⟩
     by_cases hR:ja6 s.k s.r s.L s.x s.y s.mo s.ti s.more=true
     ·rw[jw9 (d:=d) (s:=⟨k,r,L,x,y,hd,mo,ti,l,[],0⟩) hyp hW hR]
      have hw:=hR
      repeat' first|exact hrd.1|exact hdl|exact hsk|exact hK.st|simp only[PB,SA,MB,seval,rdB,jaG,jaf,jaN,jbx,jbh,jbi,jbl,jbm,tq0,tq1,tq2]|simp only[hw]|refine tT ?_|refine Cos.intro [] [0,1,2,3,4,5,6,7,8,9] rfl ?_|refine And.intro ?_ ?_|exact tC|(refine tI ?_;intro hyp)|intro hyp0|omega
     ·have hR2:=Bool.eq_false_iff.2 hR
      rw[jBk (d:=d) (s:=⟨k,r,L,x,y,hd,mo,ti,l,[],0⟩) hyp hW hR2]
      have hw:=hR2
      repeat' first|exact hrd.1|exact hdl|exact hsk|exact hK.st|simp only[PB,SA,MB,seval,rdB,jaG,jaf,jaN,jbx,jbh,jbi,jbl,jbm,tq0,tq1,tq2]|simp only[hw]|refine tT ?_|refine Cos.intro [] [0,1,2,3,4,5,6,7,8,9] rfl ?_|refine And.intro ?_ ?_|exact tC|(refine tI ?_;intro hyp)|intro hyp0|omega
      all_goals (simp[jlJ,jct])
    ·rw[if_neg ha]at hg
     obtain⟨kd,hkd⟩:∃kd,d.getD s.a 0=kd:=⟨_,rfl⟩
     rw[hkd]at hg
     have hln:s.a<d.length:=by omega
     have hkb:0≤kd∧kd<256:=by
      rw[←hkd]
      exact hrd.2.2 _ (jhL (d:=0) hln)
     by_cases h9:kd≤last∨8<kd
     ·rw[if_pos h9]at hg
      subst hg
      rw[jw8 (d:=d) (s:=⟨k,r,L,x,y,hd,mo,ti,l,[],0⟩) hyp hW (by decide)]
      have hw:=And.intro hkd (jpA (n:=kd) (by omega))
      repeat' first|exact hrd.1|exact hdl|exact hln|exact hb|simp only[PB,SA,MB,seval,rdB,jaG,jaf,jaN,jbx,jbh,jbi,jbl,jbm,tq0,tq1,tq2]|simp only[hw]|refine tT ?_|refine And.intro ?_ ?_|exact tC|(refine tI ?_;intro hyp)|intro hyp0|omega
      refine⟨_,jw7 _ _ _ _,?_⟩
      repeat' first|simp only[PB,SA,MB,seval,rdB,jaG,jaf,jaN,jbx,jbh,jbi,jbl,jbm,tq0,tq1,tq2]|simp only[hw]|refine tT ?_|refine Cos.intro [] [0,1,2,3,4,5,6,7,8,9] rfl ?_|refine And.intro ?_ ?_|exact tC|(refine tI ?_;intro hyp)|intro hyp0|omega
      all_goals (simp[jlJ,jct])
     ·rw[if_neg h9]at hg
      have hK2:=hK.next hln
      obtain⟨⟨k1,k2⟩,⟨r1,r2⟩,hLl⟩:=hK.sz
      have hnl:=hK.nl
      have hnm:=hK.nm
      have hth:RdOk d (s.a+1)∧Szd s.k s.r s.L∧(s.l.length≤16∧s.more.length≤16)∧(∀c∈s.L,CWf c)∧(kd≤5→∀c∈s.L,c.link≤s.l.length)∧(kd≤6→jbM s.k s.r s.L=true)∧(1≤kd∧kd≤8):=⟨hK2.rd,hK.sz,⟨hK.nl,hK.nm⟩,hK.wf,fun q=>hK.lk (by omega),fun q=>hK.gr (by omega),by omega,by omega⟩
      by_cases he:(thG d kd { s with a:=s.a+1 }).1=0
      ·rw[if_neg (by rw[he];decide)]at hg
       have hK3:=jCL hK2 (show last<kd by omega) (by omega) he
       have hw:=And.intro hkd (And.intro (jpA (n:=kd) (by omega)) he)
       repeat' first|exact hrd.1|exact hdl|exact hln|exact hb|exact hth.1|exact hLl|exact hK.wf _ ‹_›|exact hth.2.2.2.2.1 (by assumption) _ ‹_›|exact hth.2.2.2.2.2.1 (by assumption)|simp only[PB,SA,MB,seval,rdB,jaG,jaf,jaN,jbx,jbh,jbi,jbl,jbm,tq0,tq1,tq2]|simp only[hw]|refine tT ?_|refine And.intro ?_ ?_|exact tC|(refine tI ?_;intro hyp)|intro hyp0|omega
       exact⟨(f,kd,(thG d kd { s with a:=s.a+1 }).2),⟨by dsimp only;omega,⟨by dsimp only;omega,by dsimp only;omega⟩,hK3,hg⟩,Nat.lt_succ_self _,Cos.intro [0,1,2,3,4,6] [] rfl (by (simp only[PB,SA,MB,seval,rdB,jaG,jaf,jaN,jbx,jbh,jbi,jbl,jbm,tq0,tq1,tq2]<;>exact tE))⟩
      ·rw[if_pos he]at hg
       subst hg
       rw[jw8 (d:=d) (s:=⟨k,r,L,x,y,hd,mo,ti,l,[],0⟩) hyp hW he]
       have hw:=And.intro hkd (And.intro (jpA (n:=kd) (by omega)) (eq_false he))
       repeat' first|exact hrd.1|exact hdl|exact hln|exact hb|exact hth.1|exact hLl|exact hK.wf _ ‹_›|exact hth.2.2.2.2.1 (by assumption) _ ‹_›|exact hth.2.2.2.2.2.1 (by assumption)|simp only[PB,SA,MB,seval,rdB,jaG,jaf,jaN,jbx,jbh,jbi,jbl,jbm,tq0,tq1,tq2]|simp only[hw]|refine tT ?_|refine And.intro ?_ ?_|exact tC|(refine tI ?_;intro hyp)|intro hyp0|omega
       refine⟨_,jw7 _ _ _ _,?_⟩
       repeat' first|simp only[PB,SA,MB,seval,rdB,jaG,jaf,jaN,jbx,jbh,jbi,jbl,jbm,tq0,tq1,tq2]|simp only[hw]|refine tT ?_|refine Cos.intro [] [0,1,2,3,4,5,6,7,8,9] rfl ?_|refine And.intro ?_ ?_|exact tC|(refine tI ?_;intro hyp)|intro hyp0|omega
       all_goals (simp[jlJ,jct]))
end
end Go.Proofs.YtcfkfgkndncanaaGreatDoor
