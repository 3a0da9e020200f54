/- Texts of this claim, merged by a program of this claim: KRef19, FRef19, KLaw19, FLawU. -/
import Derived.Test.YtienkkicehmchaaGreatDoorDt14
import Derived.Test.YtienkkicehmchaaGreatDoorDt15
import Derived.Test.YtienkkicehmchaaGreatDoorDt37
import Derived.Test.YtienkkicehmchaaGreatDoorDt5
import Derived.Test.YtienkkicehmchaaGreatDoorDt6
namespace Go.Proofs.YtienkkicehmchaaGreatDoor
open And renaming intro→qaa
open Cos renaming intro→qab
noncomputable section
set_option linter.unusedVariables false
set_option linter.unusedSimpArgs false
section
open Go.RowKit
set_option maxRecDepth 100000
def z139_1:LC:=.seq (.stm [1,17] [sd 4 (.load true 9 1),sd 5 (.call 20 [4]),sd 6 (.un .not 5),kM 7 6,.g 7 false [kF 8 1 8,kL 9 1 8,sd 10 (.len false 9),sd 11 (.cmp .gtr 10 (ki 0))] 12 kt 11,kM 13 12,.g 13 false [kF 14 1 6,kL 15 1 14,sd 16 (.cmp .gtr 15 (k8 0))] 17 kt 16]) (.cond 17 (.seq (.stm [2] [kM 2 kf]) .ret) .skip)
def z139_14:LC:=.seq (.stm [1,20,21,50] [kF 24 1 2,kL 25 1 24,kM 26 3,sd 27 (.ixS 6 25 26),kF 28 27 1,kL 29 1 28,sd 30 (.cmp .neq 29 (k8 0)),kM 31 30,.g 31 false [kF 32 1 2,kL 33 1 32,kM 34 3,sd 35 (.ixS 6 33 34),kF 36 35 2,kF 37 36 0,kL 38 1 37,sd 39 (.cmp .gtr 38 (.c (.int .u32 256)))] 40 kt 39,kM 41 40,.g 41 false [kF 42 1 2,kL 43 1 42,kM 44 3,sd 45 (.ixS 6 43 44),kF 46 45 2,kF 47 46 1,kL 48 1 47,sd 49 (.cmp .gtr 48 (.c (.int .u32 256)))] 50 kt 49]) (.cond 50 (.seq (.stm [2] [kM 2 kf]) .ret) .skip)
def z139_12:LC:=.block 1 (.seq (.stm [1,3,20,21] [kM 23 21,kM 3 23]) z139_14)
def z139_11:LC:=.seq z139_12 (.stm [1,20,21] [sd 51 (.add 21 (ki 1)),kM 21 51])
def z139_8:LC:=.seq (.stm [1,20,21,22] [sd 22 (.lt 21 20)]) (.seq (.cond 22 .skip (.exit 0)) z139_11)
def z139_7:LC:=.loop z139_8
def z139_5:LC:=.seq (.stm [1,20,21] [kF 18 1 2,kL 19 1 18,sd 20 (.len false 19),kM 21 (ki 0)]) (.block 0 z139_7)
def z139_0:LC:=.seq z139_1 (.seq z139_5 (.seq (.stm [2] [kM 2 kt]) .ret))
def z139:LC:=.seq (.stm [1] [sd 1 (.box 0),kM 2 kf]) z139_0
theorem jlZ:jad Tryz.prog eqs0 29 z139 [.t 2] 52=true:=by kernel_rfl
def z140_1:LC:=.seq (.stm [1,12] [sd 4 (.load true 9 1),sd 5 (.call 20 [4]),sd 6 (.un .not 5),kM 7 6,.g 7 false [kF 8 1 8,kL 9 1 8,sd 10 (.len false 9),sd 11 (.cmp .gtr 10 (ki 0))] 12 kt 11]) (.cond 12 (.seq (.stm [2] [kM 2 kf]) .ret) .skip)
def z140_14:LC:=.seq (.stm [1,15,16,25] [kF 19 1 2,kL 20 1 19,kM 21 3,sd 22 (.ixS 6 20 21),kF 23 22 1,kL 24 1 23,sd 25 (.cmp .neq 24 (k8 0))]) (.cond 25 (.seq (.stm [2] [kM 2 kf]) .ret) .skip)
def z140_12:LC:=.block 1 (.seq (.stm [1,3,15,16] [kM 18 16,kM 3 18]) z140_14)
def z140_11:LC:=.seq z140_12 (.stm [1,15,16] [sd 26 (.add 16 (ki 1)),kM 16 26])
def z140_8:LC:=.seq (.stm [1,15,16,17] [sd 17 (.lt 16 15)]) (.seq (.cond 17 .skip (.exit 0)) z140_11)
def z140_7:LC:=.loop z140_8
def z140_5:LC:=.seq (.stm [1,15,16] [kF 13 1 2,kL 14 1 13,sd 15 (.len false 14),kM 16 (ki 0)]) (.block 0 z140_7)
def z140_0:LC:=.seq z140_1 (.seq z140_5 (.seq (.stm [2] [kM 2 kt]) .ret))
def z140:LC:=.seq (.stm [1] [sd 1 (.box 0),kM 2 kf]) z140_0
theorem jl0:jad Tryz.prog eqs0 30 z140 [.t 2] 27=true:=by kernel_rfl
def z141_5:LC:=.seq (.stm [4] [sd 8 (.load true 9 3),sd 9 (.call 29 [8]),kM 4 9]) .ret
def z141_8:LC:=.seq (.stm [4] [sd 12 (.load true 9 3),sd 13 (.call 30 [12]),kM 4 13]) .ret
def z141_11:LC:=.seq (.stm [4] [sd 16 (.load true 9 3),sd 17 (.call 20 [16]),kM 4 17]) .ret
def z141_9:LC:=.seq (.stm [3,14] [sd 15 (.eq 5 (ki 3)),kM 14 15]) (.cond 14 z141_11 .skip)
def z141_6:LC:=.seq (.stm [3,5,10] [sd 11 (.eq 5 (ki 2)),kM 10 11]) (.cond 10 z141_8 z141_9)
def z141_3:LC:=.seq (.stm [3,5,6] [sd 7 (.eq 5 (ki 1)),kM 6 7]) (.cond 6 z141_5 z141_6)
def z141_0:LC:=.seq (.seq (.stm [3,5] [kM 5 0]) (.block 0 z141_3)) (.seq (.stm [4] [kM 4 kf]) .ret)
def z141:LC:=.seq (.stm [0,3] [sd 3 (.box 1),kM 4 kf]) z141_0
theorem jl1:jad Tryz.prog eqs0 16 z141 [.t 4] 18=true:=by kernel_rfl
def z142_2:LC:=.cond 32 (.seq (.stm [6] [sd 33 (.call 9 []),kM 6 33]) .ret) .skip
def z142_1:LC:=.seq (.stm [0,4,5,32] [sd 15 (.load true 9 4),sd 16 (.call 8 [15]),kM 17 16,.g 17 false [sd 18 (.load true 9 5),sd 19 (.call 8 [18])] 20 kt 19,kM 21 20,.g 21 false [kM 22 0,sd 23 (.load true 9 4),sd 24 (.call 16 [22,23]),sd 25 (.un .not 24)] 26 kt 25,kM 27 26,.g 27 false [kM 28 0,sd 29 (.load true 9 5),sd 30 (.call 16 [28,29]),sd 31 (.un .not 30)] 32 kt 31]) z142_2
def z142_8:LC:=.seq (.stm [6] [sd 61 (.call 9 []),kM 62 61,.g 62 true [kM 63 8,sd 64 (.eq 63 (ki 0))] 65 64 kf,kM 66 65,.g 66 true [kM 67 10,sd 68 (.eq 67 (ki 0))] 69 68 kf,kM 70 69,.g 70 true [kM 71 12,sd 72 (.eq 71 (ki 0))] 73 72 kf,kM 74 73,.g 74 true [kM 75 14,sd 76 (.eq 75 (ki 0))] 77 76 kf,kM 78 77,.g 78 true [sd 79 (.load true 9 11),sd 80 (.load true 9 5),sd 81 (.call 19 [79,80])] 82 81 kf,kM 83 82,.g 83 true [sd 84 (.load true 9 13),sd 85 (.load true 9 5),sd 86 (.call 19 [84,85])] 87 86 kf,kM 88 87,.g 88 true [kM 89 7,sd 90 (.len false 89),kM 91 9,sd 92 (.len false 91),sd 93 (.cmp .leq 90 92)] 94 93 kf,kM 95 94,.g 95 true [kM 96 9,sd 97 (.len false 96),sd 98 (.cmp .leq 97 (ki 33792))] 99 98 kf,kM 6 99]) .ret
def z142_7:LC:=.seq (.stm [5,7,8,9,10,11,12,13,14] [kM 55 0,sd 56 (.load true 9 4),kM 57 9,sd 58 (.call 17 [55,56,57]),kM 54 58,sd 59 (.ext 54 0),sd 60 (.ext 54 1),sd 13 (.zero [.int .i64 0,.int .i64 0,.nils,.int .i64 0,.int .i64 0,.bool false,.int .u8 0,.str (bs []),.nils]),sn (.store 9 13 59),kM 14 60]) z142_8
def z142_6:LC:=.seq (.stm [0,4,5,7,8,9,10,11,12] [kM 48 0,sd 49 (.load true 9 4),kM 50 7,sd 51 (.call 17 [48,49,50]),kM 47 51,sd 52 (.ext 47 0),sd 53 (.ext 47 1),sd 11 (.zero [.int .i64 0,.int .i64 0,.nils,.int .i64 0,.int .i64 0,.bool false,.int .u8 0,.str (bs []),.nils]),sn (.store 9 11 52),kM 12 53]) z142_7
def z142_5:LC:=.seq (.stm [0,4,5,7,8,9,10] [kM 42 0,sd 43 (.load true 9 5),sd 44 (.call 12 [42,43]),kM 41 44,sd 45 (.ext 41 0),sd 46 (.ext 41 1),kM 9 45,kM 10 46]) z142_6
def z142_4:LC:=.seq (.stm [0,4,5,7,8] [kM 35 0,sd 36 (.load true 9 4),sd 37 (.load true 9 5),sd 38 (.call 10 [35,36,37]),kM 34 38,sd 39 (.ext 34 0),sd 40 (.ext 34 1),kM 7 39,kM 8 40]) z142_5
def z142_0:LC:=.seq z142_1 z142_4
def z142:LC:=.seq (.stm [0,4,5] [sd 4 (.box 1),sd 5 (.box 2),kM 6 kf]) z142_0
theorem jkM:jad Tryz.prog eqs0 6 z142 [.t 6] 100=true:=by kernel_rfl
end
section
open Go.RowKit
set_option maxRecDepth 100000
set_option maxHeartbeats 4000000
theorem jvM {p:CD→Bool}{L:List CD}{k:Nat}(h1:p (L.getD k default)=true) (h:∀j,j<k→p (L.getD j default)=true):∀j,j<k+1→p (L.getD j default)=true:=fun j hj=>by
 rcases Nat.lt_or_ge j k with q|q
 ·exact h j q
 ·rw[show j=k by omega]
  exact h1
theorem jvN {p:CD→Bool}{L:List CD}{k:Nat}(hk:L.length≤k) (h:∀j,j<k→p (L.getD j default)=true):L.all p=true:=by
 rw[List.all_eq_true]
 intro c hc
 obtain⟨j,hj,rfl⟩:=List.mem_iff_getElem.1 hc
 have:=h j (by omega)
 rwa [List.getD_eq_getElem?_getD,List.getElem?_eq_getElem hj,Option.getD_some]at this
theorem jym {p:CD→Bool}{L:List CD}{k:Nat}(hk:k<L.length) (h:p (L.getD k default)=false):L.all p=false:=by
 rw[List.all_eq_false]
 refine⟨L.getD k default,jaX hk,?_⟩
 rw[h]
 decide
abbrev jBj:List AK:=[.agg [.any,.any,.sl .cell,.any,.any,.any,.any,.any,.sl .str]]
abbrev q_rf1 (k r:Int) (L:List CD) (x y:Int) (hd:Bool) (mo:Int) (ti:ByteArray) (l:List ByteArray):QA:=([.agg [.int .i64 k,.int .i64 r,.vec .cell L,.int .i64 x,.int .i64 y,.bool hd,.int .u8 mo,.str ti,.vec .str l]],(ScrOk L l∧SLen ti)∧0≤mo,.ret (.bool (jaC k r L x y mo ti l)))
def sp_rf1:=spQ (u9 q_rf1)
theorem jvO:W9 (hA sp_rf1) q_rf1:=w9 (aA rfl)
theorem jBk:Al 29 sp_rf1:=ofA (u9 q_rf1) fun⟨k,r,L,x,y,hd,mo,ti,l⟩ hG=>tfi (.f jgK jeT jgL .nil) 0 jlZ (by
 dsimp only[u9,q_rf1]at hG ⊢
 have zc:=Hk.mk (@jd2)
 obtain⟨⟨hs,ht⟩,hm⟩:=hG
 have hl:=hs.len
 have hl2:=hs.links
 obtain⟨R,hR⟩:∃R,jal k r L x y mo ti l=R:=⟨_,rfl⟩
 rw[jaC,hR]
 have hw:=hR
 cases R
 ·repeat' first|exact hs|exact ht|refine tU ?_|refine qab [] [] rfl ?_|refine qaa ?_ ?_|(refine tI ?_;intro hyp)|intro hyp0|exact tZ|omega
 ·repeat' first|exact hs|exact ht|refine tU ?_|refine qab [] [] rfl ?_|refine qaa ?_ ?_|(refine tI ?_;intro hyp)|intro hyp0|exact tZ|omega
  ·have hex:(decide (l.length=0)&&(mo==0))=false:=by
    rw[Bool.and_eq_false_iff]
    simp only[decide_eq_false_iff_not,beq_eq_false_iff_ne]
    omega
   rw[hex,Bool.false_and]
  ·have hex:l.length=0∧mo=0:=by omega
   rw[hex.1,hex.2,show decide (0=0)=true from rfl,show ((0:Int)==0)=true from rfl,Bool.true_and,Bool.true_and]
   refine T.loop (fun m:Nat=>⟨[(1,.ptr 0 0 0),(20,.int .i64 L.length),(21,.int .i64 m)],[.box [.int .i64 k,.int .i64 r,.vec .cell L,.int .i64 x,.int .i64 y,.bool hd,.int .u8 mo,.str ti,.vec .str l]]⟩) (fun m=>m≤L.length∧∀j,j<m→fit1 (L.getD j default)=true) (fun m=>L.length-m) 0 ⟨by omega,fun j hj=>by omega⟩ (qab [0] [] rfl (by exact tF)) (fun m ⟨hk,hall⟩=>?_)
   repeat' first|refine tU ?_|refine qab [] [] rfl ?_|refine qaa ?_ ?_|(refine tI ?_;intro hyp)|intro hyp0|exact tZ|omega
   ·exact (jym (k:=m) (by omega) (Bool.eq_false_iff.2 fun q=>by
     simp[fit1]at q
     simp at hyp
     omega)).symm
   ·exact⟨m+1,⟨by omega,jvM (by simp only[fit1,Bool.and_eq_true,decide_eq_true_eq,beq_iff_eq];omega) hall⟩,by omega,qab [0] [] rfl (by exact tF)⟩
   ·exact (jvN (by omega) hall).symm)
theorem jBl:Fre 29 sp_rf1:=ofF (u9 q_rf1) jBk fun _=>rfl
abbrev jBm:List AK:=[.agg [.any,.any,.sl .cell,.any,.any,.any,.any,.any,.sl .str]]
abbrev q_rf2 (k r:Int) (L:List CD) (x y:Int) (hd:Bool) (mo:Int) (ti:ByteArray) (l:List ByteArray):QA:=([.agg [.int .i64 k,.int .i64 r,.vec .cell L,.int .i64 x,.int .i64 y,.bool hd,.int .u8 mo,.str ti,.vec .str l]],(ScrOk L l∧SLen ti)∧0≤mo,.ret (.bool (jaB k r L x y mo ti l)))
def sp_rf2:=spQ (u9 q_rf2)
theorem jvP:W9 (hA sp_rf2) q_rf2:=w9 (aA rfl)
theorem jBn:Al 30 sp_rf2:=ofA (u9 q_rf2) fun⟨k,r,L,x,y,hd,mo,ti,l⟩ hG=>tfi (.f jgK jeT jgL .nil) 0 jl0 (by
 dsimp only[u9,q_rf2]at hG ⊢
 have zc:=Hk.mk (@jd2)
 obtain⟨⟨hs,ht⟩,hm⟩:=hG
 have hl:=hs.len
 have hl2:=hs.links
 obtain⟨R,hR⟩:∃R,jal k r L x y mo ti l=R:=⟨_,rfl⟩
 rw[jaB,hR]
 have hw:=hR
 cases R
 ·repeat' first|exact hs|exact ht|refine tU ?_|refine qab [] [] rfl ?_|refine qaa ?_ ?_|(refine tI ?_;intro hyp)|intro hyp0|exact tZ|omega
 ·repeat' first|exact hs|exact ht|refine tU ?_|refine qab [] [] rfl ?_|refine qaa ?_ ?_|(refine tI ?_;intro hyp)|intro hyp0|exact tZ|omega
  ·have hex:decide (l.length=0)=false:=by
    rw[decide_eq_false_iff_not]
    omega
   rw[hex,Bool.false_and]
  ·have hex:l.length=0:=by omega
   rw[hex,show decide (0=0)=true from rfl,Bool.true_and]
   refine T.loop (fun m:Nat=>⟨[(1,.ptr 0 0 0),(15,.int .i64 L.length),(16,.int .i64 m)],[.box [.int .i64 k,.int .i64 r,.vec .cell L,.int .i64 x,.int .i64 y,.bool hd,.int .u8 mo,.str ti,.vec .str l]]⟩) (fun m=>m≤L.length∧∀j,j<m→fit2 (L.getD j default)=true) (fun m=>L.length-m) 0 ⟨by omega,fun j hj=>by omega⟩ (qab [0] [] rfl (by exact tF)) (fun m ⟨hk,hall⟩=>?_)
   repeat' first|refine tU ?_|refine qab [] [] rfl ?_|refine qaa ?_ ?_|(refine tI ?_;intro hyp)|intro hyp0|exact tZ|omega
   ·exact (jym (k:=m) (by omega) (Bool.eq_false_iff.2 fun q=>by
     simp[fit2]at q
     simp at hyp
     omega)).symm
   ·exact⟨m+1,⟨by omega,jvM (by simp only[fit2,beq_iff_eq];omega) hall⟩,by omega,qab [0] [] rfl (by exact tF)⟩
   ·exact (jvN (by omega) hall).symm)
theorem jBo:Fre 30 sp_rf2:=ofF (u9 q_rf2) jBn fun _=>rfl
abbrev jBp:List AK:=[.any,.agg [.any,.any,.sl .cell,.any,.any,.any,.any,.any,.sl .str]]
abbrev q_rfV (v k r:Int) (L:List CD) (x y:Int) (hd:Bool) (mo:Int) (ti:ByteArray) (l:List ByteArray):QA:=([.int .i64 v,.agg [.int .i64 k,.int .i64 r,.vec .cell L,.int .i64 x,.int .i64 y,.bool hd,.int .u8 mo,.str ti,.vec .str l]],(ScrOk L l∧SLen ti)∧0≤mo,.ret (.bool (ja8 v k r L x y mo ti l)))
def sp_rfV:=spQ (u10 q_rfV)
theorem jvQ:W10 (hA sp_rfV) q_rfV:=w10 (aA rfl)
theorem jBq:Al 16 sp_rfV:=ofA (u10 q_rfV) fun⟨v,k,r,L,x,y,hd,mo,ti,l⟩ hG=>tfi (.f jBj jlZ jBl (.f jBm jl0 jBo (.f jgK jeT jgL .nil))) 0 jl1 (by
 dsimp only[u10,q_rfV]at hG ⊢
 have zc:=Hk.mk (qaa @jvO (qaa @jvP @jd2))
 obtain⟨⟨hs,ht⟩,hm⟩:=hG
 have hc:(ScrOk L l∧SLen ti)∧0≤mo:=⟨⟨hs,ht⟩,hm⟩
 by_cases h1:v=1
 ·subst h1
  repeat' first|exact hs|exact ht|exact hm|refine tU ?_|refine qab [] [] rfl ?_|refine qaa ?_ ?_|(refine tI ?_;intro hyp)|intro hyp0|exact tZ|omega
  all_goals simp[ja8]
 by_cases h2:v=2
 ·subst h2
  repeat' first|exact hs|exact ht|exact hm|refine tU ?_|refine qab [] [] rfl ?_|refine qaa ?_ ?_|(refine tI ?_;intro hyp)|intro hyp0|exact tZ|omega
  all_goals simp[ja8]
 by_cases h3:v=3
 ·subst h3
  repeat' first|exact hs|exact ht|exact hm|refine tU ?_|refine qab [] [] rfl ?_|refine qaa ?_ ?_|(refine tI ?_;intro hyp)|intro hyp0|exact tZ|omega
  all_goals simp[ja8]
 repeat' first|exact hs|exact ht|exact hm|refine tU ?_|refine qab [] [] rfl ?_|refine qaa ?_ ?_|(refine tI ?_;intro hyp)|intro hyp0|exact tZ|omega
 all_goals simp[ja8,h1,h2,h3])
theorem jBr:Fre 16 sp_rfV:=ofF (u10 q_rfV) jBq fun _=>rfl
end
section
open Go.RowKit
set_option maxRecDepth 100000
def z143_0:LC:=.seq (.stm [2] [kF 3 1 2,kL 4 1 3,sd 5 (.len false 4),sd 6 (.cmp .gtr 5 (ki 3000)),kM 7 6,.g 7 false [kF 8 1 7,kL 9 1 8,sd 10 (.len true 9),sd 11 (.cmp .gtr 10 (ki 1000))] 12 kt 11,kM 13 12,.g 13 false [kF 14 1 8,kL 15 1 14,sd 16 (.len false 15),sd 17 (.cmp .gtr 16 (ki 1000))] 18 kt 17,kM 2 18]) .ret
def z143:LC:=.seq (.stm [1] [sd 1 (.box 0),kM 2 kf]) z143_0
theorem jkN:jad Tryz.prog eqs0 8 z143 [.t 2] 19=true:=by kernel_rfl
def z144_5:LC:=.seq (.stm [0] [kM 35 4,sd 36 (.eq 35 (ki 0)),kM 37 36,.b 37 true [kM 38 3,sd 39 (.bslice (.int .u8) [(k8 2),(k8 1),(k8 0),(k8 0),(k8 0),(k8 0)]),sd 40 (.call 14 [38,39])] 41 40 kf,kM 42 41,.g 42 true [kM 43 6,sd 44 (.eq 43 (ki 1))] 45 44 kf,kM 46 45,.g 46 true [kM 47 8,sd 48 (.eq 47 (ki 0))] 49 48 kf,kM 50 49,.g 50 true [kM 51 7,sd 52 (.len false 51),sd 53 (.eq 52 (ki 0))] 54 53 kf,kM 55 54,.g 55 true [sd 56 (.load true 9 1),sd 57 (.call 15 [(ki 2),56])] 58 57 kf,kM 0 58]) .ret
def z144_4:LC:=.seq (.stm [1,3,4,6,7,8] [sd 30 (.load true 9 1),sd 31 (.load true 9 1),sd 32 (.call 10 [(ki 3),30,31]),kM 29 32,sd 33 (.ext 29 0),sd 34 (.ext 29 1),kM 7 33,kM 8 34]) z144_5
def z144_3:LC:=.seq (.stm [1,3,4,6] [sd 24 (.load true 9 1),sd 25 (.load true 9 1),sd 26 (.call 10 [(ki 4),24,25]),kM 23 26,sd 27 (.ext 23 0),sd 28 (.ext 23 1),kM 5 27,kM 6 28]) z144_4
def z144_2:LC:=.seq (.stm [1,3,4] [sd 18 (.load true 9 1),sd 19 (.load true 9 1),sd 20 (.call 10 [(ki 1),18,19]),kM 17 20,sd 21 (.ext 17 0),sd 22 (.ext 17 1),kM 3 21,kM 4 22]) z144_3
def z144_1:LC:=.seq (.stm [1] [kF 13 1 2,kL 14 1 13,sd 15 (.ixS 6 14 (ki 0)),kF 16 15 0,sn (.store 1 16 (.c (.int .i32 97)))]) z144_2
def z144_0:LC:=.seq (.stm [1] [sd 10 (.call 23 [(ki 2),(ki 1)]),kM 9 10,sd 11 (.ext 9 0),sd 12 (.ext 9 1),sd 1 (.zero [.int .i64 0,.int .i64 0,.nils,.int .i64 0,.int .i64 0,.bool false,.int .u8 0,.str (bs []),.nils]),sn (.store 9 1 11),kM 2 12]) z144_1
def z144:LC:=.seq (.stm [] [kM 0 kf]) z144_0
theorem jkO:jad Tryz.prog eqs0 9 z144 [.t 0] 59=true:=by kernel_rfl
end
section
open Go.RowKit
set_option maxRecDepth 100000
set_option maxHeartbeats 8000000
abbrev jvR:List AK:=[.agg [.any,.any,.sl .cell,.any,.any,.any,.any,.any,.sl .str]]
abbrev q_great9 (k r:Int) (L:List CD) (x y:Int) (hd:Bool) (mo:Int) (ti:ByteArray) (l:List ByteArray):QA:=([.agg [.int .i64 k,.int .i64 r,.vec .cell L,.int .i64 x,.int .i64 y,.bool hd,.int .u8 mo,.str ti,.vec .str l]],True,.ret (.bool (decide (3000<(L.length:Int)) || decide (1000<(ti.size:Int)) || decide (1000<(l.length:Int)))))
def sp_great9:=spQ (u9 q_great9)
theorem joC:W9 (hA sp_great9) q_great9:=w9 (aA rfl)
theorem jvS:Al 8 sp_great9:=ofA (u9 q_great9) fun⟨k,r,L,x,y,hd,mo,ti,l⟩ hG=>tfi .nil 0 jkN (by
 dsimp only[u9,q_great9]at hG ⊢
 repeat' first|refine tU ?_|refine qab [] [] rfl ?_|refine qaa ?_ ?_|(refine tI ?_;intro hyp)|intro hyp0|exact tZ|omega)
theorem jvT:Fre 8 sp_great9:=ofF (u9 q_great9) jvS fun _=>rfl
theorem jBZ:jbr (encV 1 2 1 [⟨97,0,0,0,0,0⟩,blank0] 0 0 false 0 (bs []) [] 2 1 [⟨97,0,0,0,0,0⟩,blank0] 0 0 false 0 (bs []) []) (jdc 1 2 1 [⟨97,0,0,0,0,0⟩,blank0] 0 0 false 0 (bs []) [])=[2,1,0,0,0,0]:=by decide +kernel
theorem jB0:(jbr (encV 3 2 1 [⟨97,0,0,0,0,0⟩,blank0] 0 0 false 0 (bs []) [] 2 1 [⟨97,0,0,0,0,0⟩,blank0] 0 0 false 0 (bs []) []) (jdc 3 2 1 [⟨97,0,0,0,0,0⟩,blank0] 0 0 false 0 (bs []) []))=[]:=by decide +kernel
theorem jB1:ja8 1 2 1 [⟨97,0,0,0,0,0⟩,blank0] 0 0 0 (bs []) []=true:=by decide +kernel
theorem jB2:ja8 2 2 1 [⟨97,0,0,0,0,0⟩,blank0] 0 0 0 (bs []) []=true:=by decide +kernel
theorem jB3:ja8 3 2 1 [⟨97,0,0,0,0,0⟩,blank0] 0 0 0 (bs []) []=true:=by decide +kernel
theorem jB4:ja8 4 2 1 [⟨97,0,0,0,0,0⟩,blank0] 0 0 0 (bs []) []=false:=by decide +kernel
theorem jBs:ScrOk [⟨97,0,0,0,0,0⟩,blank0] []:=by
 refine⟨fun c hc=>?_,by decide,by decide,fun s hs=>(by cases hs)⟩
 rcases List.mem_cons.1 hc with rfl|hc
 ·constructor<;>decide
 rcases List.mem_cons.1 hc with rfl|hc
 ·constructor<;>decide
 cases hc
theorem jBt:[(2:Int),1,0,0,0,0].length≤4611686018427387904:=by decide
abbrev q_fixedU:QA:=([],True,.ret (.bool true))
def sp_fixedU:=spQ (u0 q_fixedU)
theorem joD:W0 (hA sp_fixedU) q_fixedU:=w0 (aA rfl (fun _ _ _=>rfl))
theorem jvU:Al 9 sp_fixedU:=ofA (u0 q_fixedU) fun _ hG=>tfi (.t [.any,.any] jkn jsn (.a jrj jgY jrk (.f jxb jkj jxd (.f jwV jls jwX .nil)))) 0 jkO (by
 dsimp only[u0,q_fixedU]at hG ⊢
 have zc:=Hk.mk (qaa @jmT (qaa @jkL (qaa @jps @jpc)))
 have hw:=qaa jBZ (qaa jB0 (qaa jB1 (qaa jB2 (qaa jB3 (qaa jB4 (qaa (show errN true=0 from rfl) (show errN false=1 from rfl)))))))
 repeat' first|exact jBs|exact jBt|decide|refine T.cut (b:=z144_2) (fun _:Unit=>⟨[(1,.ptr 0 0 0)],[.box [.int .i64 2,.int .i64 1,.vec .cell ([⟨97,0,0,0,0,0⟩,blank0]:List CD),.int .i64 0,.int .i64 0,.bool false,.int .u8 0,.str (bs []),.vec .str []]]⟩) (fun _=>True) (Held.out ?_) (fun _ _=>Held.out ?_)|refine tU ?_|refine qaa ?_ ?_|(refine tI ?_;intro hyp)|intro hyp0|exact tZ|omega
 ·refine⟨?_⟩
  repeat' first|refine tU ?_|refine qaa ?_ ?_|(refine tI ?_;intro hyp)|intro hyp0|exact tZ|omega
  exact⟨(),qab [2] [0,1] rfl (by exact tF)⟩
 ·refine⟨?_⟩
  repeat' first|exact jBs|exact jBt|decide|refine tU ?_|refine qab [] [] rfl ?_|refine qaa ?_ ?_|(refine tI ?_;intro hyp)|intro hyp0|exact tZ|omega
  all_goals trace_state)
theorem jvV:Fre 9 sp_fixedU:=ofF (u0 q_fixedU) jvU fun _=>rfl
abbrev q_lawThere (v k r:Int) (L:List CD) (x y:Int) (hd:Bool) (mo:Int) (ti:ByteArray) (l:List ByteArray) (k' r':Int) (L':List CD) (x' y':Int) (hd':Bool) (mo':Int) (ti':ByteArray) (l':List ByteArray):QA:=([.int .i64 v,.agg [.int .i64 k,.int .i64 r,.vec .cell L,.int .i64 x,.int .i64 y,.bool hd,.int .u8 mo,.str ti,.vec .str l],.agg [.int .i64 k',.int .i64 r',.vec .cell L',.int .i64 x',.int .i64 y',.bool hd',.int .u8 mo',.str ti',.vec .str l']],(-9223372036854775808≤v∧v≤9223372036854775807)∧((∀c∈L,CWf c)∧SLen ti∧(∀s∈l,SLen s)∧0≤mo)∧((∀c∈L',CWf c)∧SLen ti'∧(∀s∈l',SLen s)∧0≤mo'),.ret (.bool true))
def sp_lawThere:=spQ (u19 q_lawThere)
theorem jkZ:W19 (hA sp_lawThere) q_lawThere:=w19 (aA rfl)
theorem jpW:Al 6 sp_lawThere:=ofA (u19 q_lawThere) fun⟨v,k,r,L,x,y,hd,mo,ti,l,k',r',L',x',y',hd',mo',ti',l'⟩ hG=>tfi (.f jvR jkN jvT (.f [] jkO jvV (.f jBp jl1 jBr (.a jrj jgY jrk (.a jxZ jkK jx0 (.a jAn jiP jAo (.f jw4 jly jw6 .nil))))))) 0 jkM (by
 dsimp only[u19,q_lawThere]at hG ⊢
 have zc:=Hk.mk (qaa @joC (qaa @joD (qaa @jvQ (qaa @jkL (qaa @jpV (qaa @jsL @jpp))))))
 obtain⟨hv64,⟨hwf,ht,hsl,hmo⟩,hwf',ht',hsl',hmo'⟩:=hG
 by_cases hgt:((3000<(L.length:Int)∨1000<(ti.size:Int))∨1000<(l.length:Int))∨((3000<(L'.length:Int)∨1000<(ti'.size:Int))∨1000<(l'.length:Int))
 ·repeat' first|exact⟨hwf,by omega,by omega,hsl⟩|exact⟨hwf',by omega,by omega,hsl'⟩|refine tU ?_|refine qab [] [] rfl ?_|refine qaa ?_ ?_|(refine tI ?_;intro hyp)|intro hyp0|exact tZ|omega
  all_goals (exfalso;omega)
 have hsc:ScrOk L l:=⟨hwf,by omega,by omega,hsl⟩
 have hsc':ScrOk L' l':=⟨hwf',by omega,by omega,hsl'⟩
 have g1:¬3000<(L.length:Int):=by omega
 have g2:¬1000<(ti.size:Int):=by omega
 have g3:¬1000<(l.length:Int):=by omega
 have g1':¬3000<(L'.length:Int):=by omega
 have g2':¬1000<(ti'.size:Int):=by omega
 have g3':¬1000<(l'.length:Int):=by omega
 cases hA:ja8 v k r L x y mo ti l
 ·have hw:=hA
  repeat' first|exact hsc|exact hsc'|refine tU ?_|refine qab [] [] rfl ?_|refine qaa ?_ ?_|(refine tI ?_;intro hyp)|intro hyp0|exact tZ|omega
 cases hB:ja8 v k' r' L' x' y' mo' ti' l'
 ·have hw:=qaa hA hB
  repeat' first|exact hsc|exact hsc'|refine tU ?_|refine qab [] [] rfl ?_|refine qaa ?_ ?_|(refine tI ?_;intro hyp)|intro hyp0|exact tZ|omega
 obtain⟨l0,a0,h1⟩:=jxM (hd:=hd) (hd':=hd') hA hmo hwf hB hmo' hwf'
 obtain⟨l1,a1,h2⟩:=jri (hd:=hd) (hd':=hd') hA hB hmo' hwf'
 have hf:=je2 (v:=v) (k:=k') (r:=r') (x:=x') (y:=y') (hd:=hd') (ti:=ti') (l:=l') hwf' hmo'
 have he:=jf3 (v:=v) (k:=k) (r:=r) (x:=x) (y:=y) (hd:=hd) (ti:=ti) (k':=k') (r':=r') (x':=x') (y':=y') (hd':=hd') (ti':=ti') hsc hmo hsc' hmo'
 have hb1:=jpO he.2 hf.2
 have hle:=(jsK (encV v k r L x y hd mo ti l k' r' L' x' y' hd' mo' ti' l') (jdc v k' r' L' x' y' hd' mo' ti' l')).1
 obtain⟨d,hdd⟩:∃d,jbr (encV v k r L x y hd mo ti l k' r' L' x' y' hd' mo' ti' l') (jdc v k' r' L' x' y' hd' mo' ti' l')=d:=⟨_,rfl⟩
 obtain⟨g,hg⟩:∃d,jdc v k' r' L' x' y' hd' mo' ti' l'=d:=⟨_,rfl⟩
 rw[hg]at hdd h1 h2 hf hle hb1
 rw[hdd]at h1 hb1 hle
 have hw3:=qaa hdd hg
 have hl3:d.length≤1000000:=by omega
 have hl4:g.length≤1000000:=by omega
 have hw:=qaa (qaa hA hB) (show errN true=0 from rfl)
 have hw4:=h1
 have hw5:=h2
 have hb2:=hf.2
 repeat' first|exact hsc|exact hsc'|exact hl3|exact hl4|exact hb1|exact hb2|exact ht|exact ht'|exact hwf _ ‹_›|refine tU ?_|refine qab [] [] rfl ?_|refine qaa ?_ ?_|(refine tI ?_;intro hyp)|intro hyp0|exact tZ|omega
 all_goals (simp only[Bool.and_eq_true,decide_eq_true_eq];omega))
end
end
end Go.Proofs.YtienkkicehmchaaGreatDoor
