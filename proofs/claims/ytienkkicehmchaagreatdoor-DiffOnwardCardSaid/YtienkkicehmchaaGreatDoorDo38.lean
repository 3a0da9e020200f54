/- Texts of this claim, merged by a program of this claim: KRef19, FRef19, KLaw19, FLawU, FLawV. -/
import Derived.Test.YtienkkicehmchaaGreatDoorDo14
import Derived.Test.YtienkkicehmchaaGreatDoorDo15
import Derived.Test.YtienkkicehmchaaGreatDoorDo37
import Derived.Test.YtienkkicehmchaaGreatDoorDo5
import Derived.Test.YtienkkicehmchaaGreatDoorDo6
namespace Go.Proofs.YtienkkicehmchaaGreatDoor
open And renaming intro→qaa
open Cos renaming intro→qab
noncomputable section
set_option linter.unusedVariables false
set_option linter.unusedSimpArgs false
section
open Go.RowKit
set_option maxRecDepth 100000
def z138_1:LC:=.seq (.stm [1,17] [sd 4 (.load true 9 1),sd 5 (.call 20 [4]),sd 6 (.un .not 5),kM 7 6,.g 7 false [kF 8 1 8,kL 9 1 8,sd 10 (.len false 9),sd 11 (.cmp .gtr 10 (ki 0))] 12 kt 11,kM 13 12,.g 13 false [kF 14 1 6,kL 15 1 14,sd 16 (.cmp .gtr 15 (k8 0))] 17 kt 16]) (.cond 17 (.seq (.stm [2] [kM 2 kf]) .ret) .skip)
def z138_14:LC:=.seq (.stm [1,20,21,50] [kF 24 1 2,kL 25 1 24,kM 26 3,sd 27 (.ixS 6 25 26),kF 28 27 1,kL 29 1 28,sd 30 (.cmp .neq 29 (k8 0)),kM 31 30,.g 31 false [kF 32 1 2,kL 33 1 32,kM 34 3,sd 35 (.ixS 6 33 34),kF 36 35 2,kF 37 36 0,kL 38 1 37,sd 39 (.cmp .gtr 38 (.c (.int .u32 256)))] 40 kt 39,kM 41 40,.g 41 false [kF 42 1 2,kL 43 1 42,kM 44 3,sd 45 (.ixS 6 43 44),kF 46 45 2,kF 47 46 1,kL 48 1 47,sd 49 (.cmp .gtr 48 (.c (.int .u32 256)))] 50 kt 49]) (.cond 50 (.seq (.stm [2] [kM 2 kf]) .ret) .skip)
def z138_12:LC:=.block 1 (.seq (.stm [1,3,20,21] [kM 23 21,kM 3 23]) z138_14)
def z138_11:LC:=.seq z138_12 (.stm [1,20,21] [sd 51 (.add 21 (ki 1)),kM 21 51])
def z138_8:LC:=.seq (.stm [1,20,21,22] [sd 22 (.lt 21 20)]) (.seq (.cond 22 .skip (.exit 0)) z138_11)
def z138_7:LC:=.loop z138_8
def z138_5:LC:=.seq (.stm [1,20,21] [kF 18 1 2,kL 19 1 18,sd 20 (.len false 19),kM 21 (ki 0)]) (.block 0 z138_7)
def z138_0:LC:=.seq z138_1 (.seq z138_5 (.seq (.stm [2] [kM 2 kt]) .ret))
def z138:LC:=.seq (.stm [1] [sd 1 (.box 0),kM 2 kf]) z138_0
theorem jlW:jad Tryz.prog eqs0 29 z138 [.t 2] 52=true:=by kernel_rfl
def z139_1:LC:=.seq (.stm [1,12] [sd 4 (.load true 9 1),sd 5 (.call 20 [4]),sd 6 (.un .not 5),kM 7 6,.g 7 false [kF 8 1 8,kL 9 1 8,sd 10 (.len false 9),sd 11 (.cmp .gtr 10 (ki 0))] 12 kt 11]) (.cond 12 (.seq (.stm [2] [kM 2 kf]) .ret) .skip)
def z139_14:LC:=.seq (.stm [1,15,16,25] [kF 19 1 2,kL 20 1 19,kM 21 3,sd 22 (.ixS 6 20 21),kF 23 22 1,kL 24 1 23,sd 25 (.cmp .neq 24 (k8 0))]) (.cond 25 (.seq (.stm [2] [kM 2 kf]) .ret) .skip)
def z139_12:LC:=.block 1 (.seq (.stm [1,3,15,16] [kM 18 16,kM 3 18]) z139_14)
def z139_11:LC:=.seq z139_12 (.stm [1,15,16] [sd 26 (.add 16 (ki 1)),kM 16 26])
def z139_8:LC:=.seq (.stm [1,15,16,17] [sd 17 (.lt 16 15)]) (.seq (.cond 17 .skip (.exit 0)) z139_11)
def z139_7:LC:=.loop z139_8
def z139_5:LC:=.seq (.stm [1,15,16] [kF 13 1 2,kL 14 1 13,sd 15 (.len false 14),kM 16 (ki 0)]) (.block 0 z139_7)
def z139_0:LC:=.seq z139_1 (.seq z139_5 (.seq (.stm [2] [kM 2 kt]) .ret))
def z139:LC:=.seq (.stm [1] [sd 1 (.box 0),kM 2 kf]) z139_0
theorem jlX:jad Tryz.prog eqs0 30 z139 [.t 2] 27=true:=by kernel_rfl
def z140_5:LC:=.seq (.stm [4] [sd 8 (.load true 9 3),sd 9 (.call 29 [8]),kM 4 9]) .ret
def z140_8:LC:=.seq (.stm [4] [sd 12 (.load true 9 3),sd 13 (.call 30 [12]),kM 4 13]) .ret
def z140_11:LC:=.seq (.stm [4] [sd 16 (.load true 9 3),sd 17 (.call 20 [16]),kM 4 17]) .ret
def z140_9:LC:=.seq (.stm [3,14] [sd 15 (.eq 5 (ki 3)),kM 14 15]) (.cond 14 z140_11 .skip)
def z140_6:LC:=.seq (.stm [3,5,10] [sd 11 (.eq 5 (ki 2)),kM 10 11]) (.cond 10 z140_8 z140_9)
def z140_3:LC:=.seq (.stm [3,5,6] [sd 7 (.eq 5 (ki 1)),kM 6 7]) (.cond 6 z140_5 z140_6)
def z140_0:LC:=.seq (.seq (.stm [3,5] [kM 5 0]) (.block 0 z140_3)) (.seq (.stm [4] [kM 4 kf]) .ret)
def z140:LC:=.seq (.stm [0,3] [sd 3 (.box 1),kM 4 kf]) z140_0
theorem jlY:jad Tryz.prog eqs0 16 z140 [.t 4] 18=true:=by kernel_rfl
def z141_2:LC:=.cond 44 (.seq (.stm [8] [sd 45 (.call 9 []),kM 8 45]) .ret) .skip
def z141_1:LC:=.seq (.stm [0,5,6,7,44] [sd 17 (.load true 9 5),sd 18 (.call 8 [17]),kM 19 18,.g 19 false [sd 20 (.load true 9 6),sd 21 (.call 8 [20])] 22 kt 21,kM 23 22,.g 23 false [sd 24 (.load true 9 7),sd 25 (.call 8 [24])] 26 kt 25,kM 27 26,.g 27 false [kM 28 0,sd 29 (.load true 9 5),sd 30 (.call 16 [28,29]),sd 31 (.un .not 30)] 32 kt 31,kM 33 32,.g 33 false [kM 34 0,sd 35 (.load true 9 6),sd 36 (.call 16 [34,35]),sd 37 (.un .not 36)] 38 kt 37,kM 39 38,.g 39 false [kM 40 0,sd 41 (.load true 9 7),sd 42 (.call 16 [40,41]),sd 43 (.un .not 42)] 44 kt 43]) z141_2
def z141_8:LC:=.seq (.stm [8] [sd 74 (.call 9 []),kM 75 74,.g 75 true [kM 76 10,sd 77 (.eq 76 (ki 0))] 78 77 kf,kM 79 78,.g 79 true [kM 80 12,sd 81 (.eq 80 (ki 0))] 82 81 kf,kM 83 82,.g 83 true [kM 84 14,sd 85 (.eq 84 (ki 0))] 86 85 kf,kM 87 86,.g 87 true [kM 88 16,sd 89 (.eq 88 (ki 0))] 90 89 kf,kM 91 90,.g 91 true [sd 92 (.load true 9 15),sd 93 (.load true 9 7),sd 94 (.call 19 [92,93])] 95 94 kf,kM 8 95]) .ret
def z141_7:LC:=.seq (.stm [7,10,12,14,15,16] [kM 68 0,sd 69 (.load true 9 13),kM 70 11,sd 71 (.call 17 [68,69,70]),kM 67 71,sd 72 (.ext 67 0),sd 73 (.ext 67 1),sd 15 (.zero [.int .i64 0,.int .i64 0,.nils,.int .i64 0,.int .i64 0,.bool false,.int .u8 0,.str (bs []),.nils]),sn (.store 9 15 72),kM 16 73]) z141_8
def z141_6:LC:=.seq (.stm [0,7,10,11,12,13,14] [kM 61 0,sd 62 (.load true 9 5),kM 63 9,sd 64 (.call 17 [61,62,63]),kM 60 64,sd 65 (.ext 60 0),sd 66 (.ext 60 1),sd 13 (.zero [.int .i64 0,.int .i64 0,.nils,.int .i64 0,.int .i64 0,.bool false,.int .u8 0,.str (bs []),.nils]),sn (.store 9 13 65),kM 14 66]) z141_7
def z141_5:LC:=.seq (.stm [0,5,7,9,10,11,12] [kM 54 0,sd 55 (.load true 9 6),sd 56 (.load true 9 7),sd 57 (.call 10 [54,55,56]),kM 53 57,sd 58 (.ext 53 0),sd 59 (.ext 53 1),kM 11 58,kM 12 59]) z141_6
def z141_4:LC:=.seq (.stm [0,5,6,7,9,10] [kM 47 0,sd 48 (.load true 9 5),sd 49 (.load true 9 6),sd 50 (.call 10 [47,48,49]),kM 46 50,sd 51 (.ext 46 0),sd 52 (.ext 46 1),kM 9 51,kM 10 52]) z141_5
def z141_0:LC:=.seq z141_1 z141_4
def z141:LC:=.seq (.stm [0,5,6,7] [sd 5 (.box 1),sd 6 (.box 2),sd 7 (.box 3),kM 8 kf]) z141_0
theorem jiU:jad Tryz.prog eqs0 5 z141 [.t 8] 96=true:=by kernel_rfl
end
section
open Go.RowKit
set_option maxRecDepth 100000
set_option maxHeartbeats 4000000
theorem jvJ {p:CD→Bool}{L:List CD}{k:Nat}(h1:p (L.getD k default)=true) (h:∀j,j<k→p (L.getD j default)=true):∀j,j<k+1→p (L.getD j default)=true:=fun j hj=>by
 rcases Nat.lt_or_ge j k with q|q
 ·exact h j q
 ·rw[show j=k by omega]
  exact h1
theorem jvK {p:CD→Bool}{L:List CD}{k:Nat}(hk:L.length≤k) (h:∀j,j<k→p (L.getD j default)=true):L.all p=true:=by
 rw[List.all_eq_true]
 intro c hc
 obtain⟨j,hj,rfl⟩:=List.mem_iff_getElem.1 hc
 have:=h j (by omega)
 rwa [List.getD_eq_getElem?_getD,List.getElem?_eq_getElem hj,Option.getD_some]at this
theorem jyi {p:CD→Bool}{L:List CD}{k:Nat}(hk:k<L.length) (h:p (L.getD k default)=false):L.all p=false:=by
 rw[List.all_eq_false]
 refine⟨L.getD k default,jaX hk,?_⟩
 rw[h]
 decide
abbrev jBf:List AK:=[.agg [.any,.any,.sl .cell,.any,.any,.any,.any,.any,.sl .str]]
abbrev q_rf1 (k r:Int) (L:List CD) (x y:Int) (hd:Bool) (mo:Int) (ti:ByteArray) (l:List ByteArray):QA:=([.agg [.int .i64 k,.int .i64 r,.vec .cell L,.int .i64 x,.int .i64 y,.bool hd,.int .u8 mo,.str ti,.vec .str l]],(ScrOk L l∧SLen ti)∧0≤mo,.ret (.bool (jaC k r L x y mo ti l)))
def sp_rf1:=spQ (u9 q_rf1)
theorem jvL:W9 (hA sp_rf1) q_rf1:=w9 (aA rfl)
theorem jBg:Al 29 sp_rf1:=ofA (u9 q_rf1) fun⟨k,r,L,x,y,hd,mo,ti,l⟩ hG=>tfi (.f jgJ jeV jgK .nil) 0 jlW (by
 dsimp only[u9,q_rf1]at hG ⊢
 have zc:=Hk.mk (@jd1)
 obtain⟨⟨hs,ht⟩,hm⟩:=hG
 have hl:=hs.len
 have hl2:=hs.links
 obtain⟨R,hR⟩:∃R,jal k r L x y mo ti l=R:=⟨_,rfl⟩
 rw[jaC,hR]
 have hw:=hR
 cases R
 ·repeat' first|exact hs|exact ht|refine tU ?_|refine qab [] [] rfl ?_|refine qaa ?_ ?_|(refine tI ?_;intro hyp)|intro hyp0|exact tZ|omega
 ·repeat' first|exact hs|exact ht|refine tU ?_|refine qab [] [] rfl ?_|refine qaa ?_ ?_|(refine tI ?_;intro hyp)|intro hyp0|exact tZ|omega
  ·have hex:(decide (l.length=0)&&(mo==0))=false:=by
    rw[Bool.and_eq_false_iff]
    simp only[decide_eq_false_iff_not,beq_eq_false_iff_ne]
    omega
   rw[hex,Bool.false_and]
  ·have hex:l.length=0∧mo=0:=by omega
   rw[hex.1,hex.2,show decide (0=0)=true from rfl,show ((0:Int)==0)=true from rfl,Bool.true_and,Bool.true_and]
   refine T.loop (fun m:Nat=>⟨[(1,.ptr 0 0 0),(20,.int .i64 L.length),(21,.int .i64 m)],[.box [.int .i64 k,.int .i64 r,.vec .cell L,.int .i64 x,.int .i64 y,.bool hd,.int .u8 mo,.str ti,.vec .str l]]⟩) (fun m=>m≤L.length∧∀j,j<m→fit1 (L.getD j default)=true) (fun m=>L.length-m) 0 ⟨by omega,fun j hj=>by omega⟩ (qab [0] [] rfl (by exact tF)) (fun m ⟨hk,hall⟩=>?_)
   repeat' first|refine tU ?_|refine qab [] [] rfl ?_|refine qaa ?_ ?_|(refine tI ?_;intro hyp)|intro hyp0|exact tZ|omega
   ·exact (jyi (k:=m) (by omega) (Bool.eq_false_iff.2 fun q=>by
     simp[fit1]at q
     simp at hyp
     omega)).symm
   ·exact⟨m+1,⟨by omega,jvJ (by simp only[fit1,Bool.and_eq_true,decide_eq_true_eq,beq_iff_eq];omega) hall⟩,by omega,qab [0] [] rfl (by exact tF)⟩
   ·exact (jvK (by omega) hall).symm)
theorem jBh:Fre 29 sp_rf1:=ofF (u9 q_rf1) jBg fun _=>rfl
abbrev jBi:List AK:=[.agg [.any,.any,.sl .cell,.any,.any,.any,.any,.any,.sl .str]]
abbrev q_rf2 (k r:Int) (L:List CD) (x y:Int) (hd:Bool) (mo:Int) (ti:ByteArray) (l:List ByteArray):QA:=([.agg [.int .i64 k,.int .i64 r,.vec .cell L,.int .i64 x,.int .i64 y,.bool hd,.int .u8 mo,.str ti,.vec .str l]],(ScrOk L l∧SLen ti)∧0≤mo,.ret (.bool (jaB k r L x y mo ti l)))
def sp_rf2:=spQ (u9 q_rf2)
theorem jvM:W9 (hA sp_rf2) q_rf2:=w9 (aA rfl)
theorem jBj:Al 30 sp_rf2:=ofA (u9 q_rf2) fun⟨k,r,L,x,y,hd,mo,ti,l⟩ hG=>tfi (.f jgJ jeV jgK .nil) 0 jlX (by
 dsimp only[u9,q_rf2]at hG ⊢
 have zc:=Hk.mk (@jd1)
 obtain⟨⟨hs,ht⟩,hm⟩:=hG
 have hl:=hs.len
 have hl2:=hs.links
 obtain⟨R,hR⟩:∃R,jal k r L x y mo ti l=R:=⟨_,rfl⟩
 rw[jaB,hR]
 have hw:=hR
 cases R
 ·repeat' first|exact hs|exact ht|refine tU ?_|refine qab [] [] rfl ?_|refine qaa ?_ ?_|(refine tI ?_;intro hyp)|intro hyp0|exact tZ|omega
 ·repeat' first|exact hs|exact ht|refine tU ?_|refine qab [] [] rfl ?_|refine qaa ?_ ?_|(refine tI ?_;intro hyp)|intro hyp0|exact tZ|omega
  ·have hex:decide (l.length=0)=false:=by
    rw[decide_eq_false_iff_not]
    omega
   rw[hex,Bool.false_and]
  ·have hex:l.length=0:=by omega
   rw[hex,show decide (0=0)=true from rfl,Bool.true_and]
   refine T.loop (fun m:Nat=>⟨[(1,.ptr 0 0 0),(15,.int .i64 L.length),(16,.int .i64 m)],[.box [.int .i64 k,.int .i64 r,.vec .cell L,.int .i64 x,.int .i64 y,.bool hd,.int .u8 mo,.str ti,.vec .str l]]⟩) (fun m=>m≤L.length∧∀j,j<m→fit2 (L.getD j default)=true) (fun m=>L.length-m) 0 ⟨by omega,fun j hj=>by omega⟩ (qab [0] [] rfl (by exact tF)) (fun m ⟨hk,hall⟩=>?_)
   repeat' first|refine tU ?_|refine qab [] [] rfl ?_|refine qaa ?_ ?_|(refine tI ?_;intro hyp)|intro hyp0|exact tZ|omega
   ·exact (jyi (k:=m) (by omega) (Bool.eq_false_iff.2 fun q=>by
     simp[fit2]at q
     simp at hyp
     omega)).symm
   ·exact⟨m+1,⟨by omega,jvJ (by simp only[fit2,beq_iff_eq];omega) hall⟩,by omega,qab [0] [] rfl (by exact tF)⟩
   ·exact (jvK (by omega) hall).symm)
theorem jBk:Fre 30 sp_rf2:=ofF (u9 q_rf2) jBj fun _=>rfl
abbrev jBl:List AK:=[.any,.agg [.any,.any,.sl .cell,.any,.any,.any,.any,.any,.sl .str]]
abbrev q_rfV (v k r:Int) (L:List CD) (x y:Int) (hd:Bool) (mo:Int) (ti:ByteArray) (l:List ByteArray):QA:=([.int .i64 v,.agg [.int .i64 k,.int .i64 r,.vec .cell L,.int .i64 x,.int .i64 y,.bool hd,.int .u8 mo,.str ti,.vec .str l]],(ScrOk L l∧SLen ti)∧0≤mo,.ret (.bool (jbf v k r L x y mo ti l)))
def sp_rfV:=spQ (u10 q_rfV)
theorem jvN:W10 (hA sp_rfV) q_rfV:=w10 (aA rfl)
theorem jBm:Al 16 sp_rfV:=ofA (u10 q_rfV) fun⟨v,k,r,L,x,y,hd,mo,ti,l⟩ hG=>tfi (.f jBf jlW jBh (.f jBi jlX jBk (.f jgJ jeV jgK .nil))) 0 jlY (by
 dsimp only[u10,q_rfV]at hG ⊢
 have zc:=Hk.mk (qaa @jvL (qaa @jvM @jd1))
 obtain⟨⟨hs,ht⟩,hm⟩:=hG
 have hc:(ScrOk L l∧SLen ti)∧0≤mo:=⟨⟨hs,ht⟩,hm⟩
 by_cases h1:v=1
 ·subst h1
  repeat' first|exact hs|exact ht|exact hm|refine tU ?_|refine qab [] [] rfl ?_|refine qaa ?_ ?_|(refine tI ?_;intro hyp)|intro hyp0|exact tZ|omega
  all_goals simp[jbf]
 by_cases h2:v=2
 ·subst h2
  repeat' first|exact hs|exact ht|exact hm|refine tU ?_|refine qab [] [] rfl ?_|refine qaa ?_ ?_|(refine tI ?_;intro hyp)|intro hyp0|exact tZ|omega
  all_goals simp[jbf]
 by_cases h3:v=3
 ·subst h3
  repeat' first|exact hs|exact ht|exact hm|refine tU ?_|refine qab [] [] rfl ?_|refine qaa ?_ ?_|(refine tI ?_;intro hyp)|intro hyp0|exact tZ|omega
  all_goals simp[jbf]
 repeat' first|exact hs|exact ht|exact hm|refine tU ?_|refine qab [] [] rfl ?_|refine qaa ?_ ?_|(refine tI ?_;intro hyp)|intro hyp0|exact tZ|omega
 all_goals simp[jbf,h1,h2,h3])
theorem jBn:Fre 16 sp_rfV:=ofF (u10 q_rfV) jBm fun _=>rfl
end
section
open Go.RowKit
set_option maxRecDepth 100000
def z142_0:LC:=.seq (.stm [2] [kF 3 1 2,kL 4 1 3,sd 5 (.len false 4),sd 6 (.cmp .gtr 5 (ki 3000)),kM 7 6,.g 7 false [kF 8 1 7,kL 9 1 8,sd 10 (.len true 9),sd 11 (.cmp .gtr 10 (ki 1000))] 12 kt 11,kM 13 12,.g 13 false [kF 14 1 8,kL 15 1 14,sd 16 (.len false 15),sd 17 (.cmp .gtr 16 (ki 1000))] 18 kt 17,kM 2 18]) .ret
def z142:LC:=.seq (.stm [1] [sd 1 (.box 0),kM 2 kf]) z142_0
theorem jkK:jad Tryz.prog eqs0 8 z142 [.t 2] 19=true:=by kernel_rfl
def z143_5:LC:=.seq (.stm [0] [kM 35 4,sd 36 (.eq 35 (ki 0)),kM 37 36,.b 37 true [kM 38 3,sd 39 (.bslice (.int .u8) [(k8 2),(k8 1),(k8 0),(k8 0),(k8 0),(k8 0)]),sd 40 (.call 14 [38,39])] 41 40 kf,kM 42 41,.g 42 true [kM 43 6,sd 44 (.eq 43 (ki 1))] 45 44 kf,kM 46 45,.g 46 true [kM 47 8,sd 48 (.eq 47 (ki 0))] 49 48 kf,kM 50 49,.g 50 true [kM 51 7,sd 52 (.len false 51),sd 53 (.eq 52 (ki 0))] 54 53 kf,kM 55 54,.g 55 true [sd 56 (.load true 9 1),sd 57 (.call 15 [(ki 2),56])] 58 57 kf,kM 0 58]) .ret
def z143_4:LC:=.seq (.stm [1,3,4,6,7,8] [sd 30 (.load true 9 1),sd 31 (.load true 9 1),sd 32 (.call 10 [(ki 3),30,31]),kM 29 32,sd 33 (.ext 29 0),sd 34 (.ext 29 1),kM 7 33,kM 8 34]) z143_5
def z143_3:LC:=.seq (.stm [1,3,4,6] [sd 24 (.load true 9 1),sd 25 (.load true 9 1),sd 26 (.call 10 [(ki 4),24,25]),kM 23 26,sd 27 (.ext 23 0),sd 28 (.ext 23 1),kM 5 27,kM 6 28]) z143_4
def z143_2:LC:=.seq (.stm [1,3,4] [sd 18 (.load true 9 1),sd 19 (.load true 9 1),sd 20 (.call 10 [(ki 1),18,19]),kM 17 20,sd 21 (.ext 17 0),sd 22 (.ext 17 1),kM 3 21,kM 4 22]) z143_3
def z143_1:LC:=.seq (.stm [1] [kF 13 1 2,kL 14 1 13,sd 15 (.ixS 6 14 (ki 0)),kF 16 15 0,sn (.store 1 16 (.c (.int .i32 97)))]) z143_2
def z143_0:LC:=.seq (.stm [1] [sd 10 (.call 23 [(ki 2),(ki 1)]),kM 9 10,sd 11 (.ext 9 0),sd 12 (.ext 9 1),sd 1 (.zero [.int .i64 0,.int .i64 0,.nils,.int .i64 0,.int .i64 0,.bool false,.int .u8 0,.str (bs []),.nils]),sn (.store 9 1 11),kM 2 12]) z143_1
def z143:LC:=.seq (.stm [] [kM 0 kf]) z143_0
theorem jkL:jad Tryz.prog eqs0 9 z143 [.t 0] 59=true:=by kernel_rfl
end
section
open Go.RowKit
set_option maxRecDepth 100000
set_option maxHeartbeats 8000000
abbrev jvO:List AK:=[.agg [.any,.any,.sl .cell,.any,.any,.any,.any,.any,.sl .str]]
abbrev q_great9 (k r:Int) (L:List CD) (x y:Int) (hd:Bool) (mo:Int) (ti:ByteArray) (l:List ByteArray):QA:=([.agg [.int .i64 k,.int .i64 r,.vec .cell L,.int .i64 x,.int .i64 y,.bool hd,.int .u8 mo,.str ti,.vec .str l]],True,.ret (.bool (decide (3000<(L.length:Int)) || decide (1000<(ti.size:Int)) || decide (1000<(l.length:Int)))))
def sp_great9:=spQ (u9 q_great9)
theorem joy:W9 (hA sp_great9) q_great9:=w9 (aA rfl)
theorem jvP:Al 8 sp_great9:=ofA (u9 q_great9) fun⟨k,r,L,x,y,hd,mo,ti,l⟩ hG=>tfi .nil 0 jkK (by
 dsimp only[u9,q_great9]at hG ⊢
 repeat' first|refine tU ?_|refine qab [] [] rfl ?_|refine qaa ?_ ?_|(refine tI ?_;intro hyp)|intro hyp0|exact tZ|omega)
theorem jvQ:Fre 8 sp_great9:=ofF (u9 q_great9) jvP fun _=>rfl
theorem jBV:jbl (encV 1 2 1 [⟨97,0,0,0,0,0⟩,blank0] 0 0 false 0 (bs []) [] 2 1 [⟨97,0,0,0,0,0⟩,blank0] 0 0 false 0 (bs []) []) (jeB 1 2 1 [⟨97,0,0,0,0,0⟩,blank0] 0 0 false 0 (bs []) [])=[2,1,0,0,0,0]:=by decide +kernel
theorem jBW:(jbl (encV 3 2 1 [⟨97,0,0,0,0,0⟩,blank0] 0 0 false 0 (bs []) [] 2 1 [⟨97,0,0,0,0,0⟩,blank0] 0 0 false 0 (bs []) []) (jeB 3 2 1 [⟨97,0,0,0,0,0⟩,blank0] 0 0 false 0 (bs []) []))=[]:=by decide +kernel
theorem jBX:jbf 1 2 1 [⟨97,0,0,0,0,0⟩,blank0] 0 0 0 (bs []) []=true:=by decide +kernel
theorem jBY:jbf 2 2 1 [⟨97,0,0,0,0,0⟩,blank0] 0 0 0 (bs []) []=true:=by decide +kernel
theorem jBZ:jbf 3 2 1 [⟨97,0,0,0,0,0⟩,blank0] 0 0 0 (bs []) []=true:=by decide +kernel
theorem jB0:jbf 4 2 1 [⟨97,0,0,0,0,0⟩,blank0] 0 0 0 (bs []) []=false:=by decide +kernel
theorem jBo:ScrOk [⟨97,0,0,0,0,0⟩,blank0] []:=by
 refine⟨fun c hc=>?_,by decide,by decide,fun s hs=>(by cases hs)⟩
 rcases List.mem_cons.1 hc with rfl|hc
 ·constructor<;>decide
 rcases List.mem_cons.1 hc with rfl|hc
 ·constructor<;>decide
 cases hc
theorem jBp:[(2:Int),1,0,0,0,0].length≤4611686018427387904:=by decide
abbrev q_fixedU:QA:=([],True,.ret (.bool true))
def sp_fixedU:=spQ (u0 q_fixedU)
theorem joz:W0 (hA sp_fixedU) q_fixedU:=w0 (aA rfl (fun _ _ _=>rfl))
theorem jvR:Al 9 sp_fixedU:=ofA (u0 q_fixedU) fun _ hG=>tfi (.t [.any,.any] jkl jse (.a jrb jgX jrc (.f jw8 jkg jxa (.f jwS jlo jwU .nil)))) 0 jkL (by
 dsimp only[u0,q_fixedU]at hG ⊢
 have zc:=Hk.mk (qaa @jmQ (qaa @jkJ (qaa @jpo @jo8)))
 have hw:=qaa jBV (qaa jBW (qaa jBX (qaa jBY (qaa jBZ (qaa jB0 (qaa (show errN true=0 from rfl) (show errN false=1 from rfl)))))))
 repeat' first|exact jBo|exact jBp|decide|refine T.cut (b:=z143_2) (fun _:Unit=>⟨[(1,.ptr 0 0 0)],[.box [.int .i64 2,.int .i64 1,.vec .cell ([⟨97,0,0,0,0,0⟩,blank0]:List CD),.int .i64 0,.int .i64 0,.bool false,.int .u8 0,.str (bs []),.vec .str []]]⟩) (fun _=>True) (Held.out ?_) (fun _ _=>Held.out ?_)|refine tU ?_|refine qaa ?_ ?_|(refine tI ?_;intro hyp)|intro hyp0|exact tZ|omega
 ·refine⟨?_⟩
  repeat' first|refine tU ?_|refine qaa ?_ ?_|(refine tI ?_;intro hyp)|intro hyp0|exact tZ|omega
  exact⟨(),qab [2] [0,1] rfl (by exact tF)⟩
 ·refine⟨?_⟩
  repeat' first|exact jBo|exact jBp|decide|refine tU ?_|refine qab [] [] rfl ?_|refine qaa ?_ ?_|(refine tI ?_;intro hyp)|intro hyp0|exact tZ|omega
  all_goals trace_state)
theorem jvS:Fre 9 sp_fixedU:=ofF (u0 q_fixedU) jvR fun _=>rfl
end
section
open Go.RowKit
set_option maxRecDepth 100000
set_option maxHeartbeats 8000000
abbrev q_lawOn (v k r:Int) (L:List CD) (x y:Int) (hd:Bool) (mo:Int) (ti:ByteArray) (l:List ByteArray) (k' r':Int) (L':List CD) (x' y':Int) (hd':Bool) (mo':Int) (ti':ByteArray) (l':List ByteArray) (k₂ r₂:Int) (L₂:List CD) (x₂ y₂:Int) (hd₂:Bool) (mo₂:Int) (ti₂:ByteArray) (l₂:List ByteArray):QA:=([.int .i64 v,.agg [.int .i64 k,.int .i64 r,.vec .cell L,.int .i64 x,.int .i64 y,.bool hd,.int .u8 mo,.str ti,.vec .str l],.agg [.int .i64 k',.int .i64 r',.vec .cell L',.int .i64 x',.int .i64 y',.bool hd',.int .u8 mo',.str ti',.vec .str l'],.agg [.int .i64 k₂,.int .i64 r₂,.vec .cell L₂,.int .i64 x₂,.int .i64 y₂,.bool hd₂,.int .u8 mo₂,.str ti₂,.vec .str l₂]],(-9223372036854775808≤v∧v≤9223372036854775807)∧((∀c∈L,CWf c)∧SLen ti∧(∀s∈l,SLen s)∧0≤mo)∧((∀c∈L',CWf c)∧SLen ti'∧(∀s∈l',SLen s)∧0≤mo')∧((∀c∈L₂,CWf c)∧SLen ti₂∧(∀s∈l₂,SLen s)∧0≤mo₂),.ret (.bool true))
def sp_lawOn:=spQ (u28 q_lawOn)
theorem jpQ:W28 (hA sp_lawOn) q_lawOn:=w28 (aA rfl)
theorem jxW:Al 5 sp_lawOn:=ofA (u28 q_lawOn) fun⟨v,k,r,L,x,y,hd,mo,ti,l,k',r',L',x',y',hd',mo',ti',l',k₂,r₂,L₂,x₂,y₂,hd₂,mo₂,ti₂,l₂⟩ hG=>tfi (.f jvO jkK jvQ (.f [] jkL jvS (.f jBl jlY jBn (.a jrb jgX jrc (.a jAj jiO jAk (.f jw1 jlu jw3 .nil)))))) 0 jiU (by
 dsimp only[u28,q_lawOn]at hG ⊢
 have zc:=Hk.mk (qaa @joy (qaa @joz (qaa @jvN (qaa @jkJ (qaa @jsB @jpl)))))
 obtain⟨hv64,⟨hwf,ht,hsl,hmo⟩,⟨hwf',ht',hsl',hmo'⟩,hwf₂,ht₂,hsl₂,hmo₂⟩:=hG
 by_cases hgt:(((3000<(L.length:Int)∨1000<(ti.size:Int))∨1000<(l.length:Int))∨((3000<(L'.length:Int)∨1000<(ti'.size:Int))∨1000<(l'.length:Int)))∨((3000<(L₂.length:Int)∨1000<(ti₂.size:Int))∨1000<(l₂.length:Int))
 ·repeat' first|exact⟨hwf,by omega,by omega,hsl⟩|exact⟨hwf',by omega,by omega,hsl'⟩|exact⟨hwf₂,by omega,by omega,hsl₂⟩|refine tU ?_|refine qab [] [] rfl ?_|refine qaa ?_ ?_|(refine tI ?_;intro hyp)|intro hyp0|exact tZ|omega
  all_goals (exfalso;omega)
 have hsc:ScrOk L l:=⟨hwf,by omega,by omega,hsl⟩
 have ga:¬3000<(L.length:Int):=by omega
 have gb:¬1000<(ti.size:Int):=by omega
 have gc:¬1000<(l.length:Int):=by omega
 have hsc':ScrOk L' l':=⟨hwf',by omega,by omega,hsl'⟩
 have ga':¬3000<(L'.length:Int):=by omega
 have gb':¬1000<(ti'.size:Int):=by omega
 have gc':¬1000<(l'.length:Int):=by omega
 have hsc₂:ScrOk L₂ l₂:=⟨hwf₂,by omega,by omega,hsl₂⟩
 have ga₂:¬3000<(L₂.length:Int):=by omega
 have gb₂:¬1000<(ti₂.size:Int):=by omega
 have gc₂:¬1000<(l₂.length:Int):=by omega
 cases hA0:jbf v k r L x y mo ti l
 ·have hw:=hA0
  repeat' first|exact hsc|exact hsc'|exact hsc₂|refine tU ?_|refine qab [] [] rfl ?_|refine qaa ?_ ?_|(refine tI ?_;intro hyp)|intro hyp0|exact tZ|omega
 cases hA1:jbf v k' r' L' x' y' mo' ti' l'
 ·have hw:=qaa hA0 hA1
  repeat' first|exact hsc|exact hsc'|exact hsc₂|refine tU ?_|refine qab [] [] rfl ?_|refine qaa ?_ ?_|(refine tI ?_;intro hyp)|intro hyp0|exact tZ|omega
 cases hA2:jbf v k₂ r₂ L₂ x₂ y₂ mo₂ ti₂ l₂
 ·have hw:=qaa hA0 (qaa hA1 hA2)
  repeat' first|exact hsc|exact hsc'|exact hsc₂|refine tU ?_|refine qab [] [] rfl ?_|refine qaa ?_ ?_|(refine tI ?_;intro hyp)|intro hyp0|exact tZ|omega
 obtain⟨l1,a1,h1⟩:=jra (hd:=hd) (hd':=hd') hA0 hmo hwf hA1 hmo' hwf'
 have hf1:=jdq (v:=v) (k:=k') (r:=r') (x:=x') (y:=y') (hd:=hd') (ti:=ti') (l:=l') hwf' hmo'
 have he1:=jeC (v:=v) (k:=k) (r:=r) (x:=x) (y:=y) (hd:=hd) (ti:=ti) (k':=k') (r':=r') (x':=x') (y':=y') (hd':=hd') (ti':=ti') hsc hmo hsc' hmo'
 have hb1:=jkI he1.2 hf1.2
 have hle1:=(jlV (encV v k r L x y hd mo ti l k' r' L' x' y' hd' mo' ti' l') (jeB v k' r' L' x' y' hd' mo' ti' l')).1
 obtain⟨d1,hdd1⟩:∃d,jbl (encV v k r L x y hd mo ti l k' r' L' x' y' hd' mo' ti' l') (jeB v k' r' L' x' y' hd' mo' ti' l')=d:=⟨_,rfl⟩
 rw[hdd1]at h1 hb1 hle1
 have hl1:d1.length≤1000000:=by omega
 obtain⟨l2,a2,h2⟩:=jra (hd:=hd') (hd':=hd₂) hA1 hmo' hwf' hA2 hmo₂ hwf₂
 have hf2:=jdq (v:=v) (k:=k₂) (r:=r₂) (x:=x₂) (y:=y₂) (hd:=hd₂) (ti:=ti₂) (l:=l₂) hwf₂ hmo₂
 have he2:=jeC (v:=v) (k:=k') (r:=r') (x:=x') (y:=y') (hd:=hd') (ti:=ti') (k':=k₂) (r':=r₂) (x':=x₂) (y':=y₂) (hd':=hd₂) (ti':=ti₂) hsc' hmo' hsc₂ hmo₂
 have hb2:=jkI he2.2 hf2.2
 have hle2:=(jlV (encV v k' r' L' x' y' hd' mo' ti' l' k₂ r₂ L₂ x₂ y₂ hd₂ mo₂ ti₂ l₂) (jeB v k₂ r₂ L₂ x₂ y₂ hd₂ mo₂ ti₂ l₂)).1
 obtain⟨d2,hdd2⟩:∃d,jbl (encV v k' r' L' x' y' hd' mo' ti' l' k₂ r₂ L₂ x₂ y₂ hd₂ mo₂ ti₂ l₂) (jeB v k₂ r₂ L₂ x₂ y₂ hd₂ mo₂ ti₂ l₂)=d:=⟨_,rfl⟩
 rw[hdd2]at h2 hb2 hle2
 have hl2:d2.length≤1000000:=by omega
 have hw:=qaa (qaa hA0 (qaa hA1 hA2)) (show errN true=0 from rfl)
 have hw3:=qaa hdd1 hdd2
 have hw4:=h1
 have hw5:=h2
 repeat' first|exact hsc|exact hsc'|exact hsc₂|exact hl1|exact hl2|exact hb1|exact hb2|exact ht|exact ht'|exact ht₂|exact hwf _ ‹_›|exact hwf' _ ‹_›|refine tU ?_|refine qab [] [] rfl ?_|refine qaa ?_ ?_|(refine tI ?_;intro hyp)|intro hyp0|exact tZ|omega)
end
end
end Go.Proofs.YtienkkicehmchaaGreatDoor
