/- Texts of this claim, merged by a program of this claim: KRef19, FRef19. -/
import Derived.Test.YtienkkicehmchaaGreatDoorDl21
import Derived.Test.YtienkkicehmchaaGreatDoorDl22
import Derived.Test.YtienkkicehmchaaGreatDoorDl5
import Derived.Test.YtienkkicehmchaaGreatDoorDl6
namespace Go.Proofs.YtienkkicehmchaaGreatDoor
open Cos renaming intro→qaa
open And renaming intro→qab
noncomputable section
set_option linter.unusedVariables false
set_option linter.unusedSimpArgs false
section
open Go.RowKit
set_option maxRecDepth 100000
def z116_1:LC:=.seq (.stm [1,17] [sd 4 (.load true 9 1),sd 5 (.call 20 [4]),sd 6 (.un .not 5),kM 7 6,.g 7 false [kF 8 1 8,kL 9 1 8,sd 10 (.len false 9),sd 11 (.cmp .gtr 10 (ki 0))] 12 kt 11,kM 13 12,.g 13 false [kF 14 1 6,kL 15 1 14,sd 16 (.cmp .gtr 15 (k8 0))] 17 kt 16]) (.cond 17 (.seq (.stm [2] [kM 2 kf]) .ret) .skip)
def z116_14:LC:=.seq (.stm [1,20,21,50] [kF 24 1 2,kL 25 1 24,kM 26 3,sd 27 (.ixS 6 25 26),kF 28 27 1,kL 29 1 28,sd 30 (.cmp .neq 29 (k8 0)),kM 31 30,.g 31 false [kF 32 1 2,kL 33 1 32,kM 34 3,sd 35 (.ixS 6 33 34),kF 36 35 2,kF 37 36 0,kL 38 1 37,sd 39 (.cmp .gtr 38 (.c (.int .u32 256)))] 40 kt 39,kM 41 40,.g 41 false [kF 42 1 2,kL 43 1 42,kM 44 3,sd 45 (.ixS 6 43 44),kF 46 45 2,kF 47 46 1,kL 48 1 47,sd 49 (.cmp .gtr 48 (.c (.int .u32 256)))] 50 kt 49]) (.cond 50 (.seq (.stm [2] [kM 2 kf]) .ret) .skip)
def z116_12:LC:=.block 1 (.seq (.stm [1,3,20,21] [kM 23 21,kM 3 23]) z116_14)
def z116_11:LC:=.seq z116_12 (.stm [1,20,21] [sd 51 (.add 21 (ki 1)),kM 21 51])
def z116_8:LC:=.seq (.stm [1,20,21,22] [sd 22 (.lt 21 20)]) (.seq (.cond 22 .skip (.exit 0)) z116_11)
def z116_7:LC:=.loop z116_8
def z116_5:LC:=.seq (.stm [1,20,21] [kF 18 1 2,kL 19 1 18,sd 20 (.len false 19),kM 21 (ki 0)]) (.block 0 z116_7)
def z116_0:LC:=.seq z116_1 (.seq z116_5 (.seq (.stm [2] [kM 2 kt]) .ret))
def z116:LC:=.seq (.stm [1] [sd 1 (.box 0),kM 2 kf]) z116_0
theorem jff:jad Tryz.prog eqs0 29 z116 [.t 2] 52=true:=by kernel_rfl
def z117_1:LC:=.seq (.stm [1,12] [sd 4 (.load true 9 1),sd 5 (.call 20 [4]),sd 6 (.un .not 5),kM 7 6,.g 7 false [kF 8 1 8,kL 9 1 8,sd 10 (.len false 9),sd 11 (.cmp .gtr 10 (ki 0))] 12 kt 11]) (.cond 12 (.seq (.stm [2] [kM 2 kf]) .ret) .skip)
def z117_14:LC:=.seq (.stm [1,15,16,25] [kF 19 1 2,kL 20 1 19,kM 21 3,sd 22 (.ixS 6 20 21),kF 23 22 1,kL 24 1 23,sd 25 (.cmp .neq 24 (k8 0))]) (.cond 25 (.seq (.stm [2] [kM 2 kf]) .ret) .skip)
def z117_12:LC:=.block 1 (.seq (.stm [1,3,15,16] [kM 18 16,kM 3 18]) z117_14)
def z117_11:LC:=.seq z117_12 (.stm [1,15,16] [sd 26 (.add 16 (ki 1)),kM 16 26])
def z117_8:LC:=.seq (.stm [1,15,16,17] [sd 17 (.lt 16 15)]) (.seq (.cond 17 .skip (.exit 0)) z117_11)
def z117_7:LC:=.loop z117_8
def z117_5:LC:=.seq (.stm [1,15,16] [kF 13 1 2,kL 14 1 13,sd 15 (.len false 14),kM 16 (ki 0)]) (.block 0 z117_7)
def z117_0:LC:=.seq z117_1 (.seq z117_5 (.seq (.stm [2] [kM 2 kt]) .ret))
def z117:LC:=.seq (.stm [1] [sd 1 (.box 0),kM 2 kf]) z117_0
theorem jfg:jad Tryz.prog eqs0 30 z117 [.t 2] 27=true:=by kernel_rfl
def z118_5:LC:=.seq (.stm [4] [sd 8 (.load true 9 3),sd 9 (.call 29 [8]),kM 4 9]) .ret
def z118_8:LC:=.seq (.stm [4] [sd 12 (.load true 9 3),sd 13 (.call 30 [12]),kM 4 13]) .ret
def z118_11:LC:=.seq (.stm [4] [sd 16 (.load true 9 3),sd 17 (.call 20 [16]),kM 4 17]) .ret
def z118_9:LC:=.seq (.stm [3,14] [sd 15 (.eq 5 (ki 3)),kM 14 15]) (.cond 14 z118_11 .skip)
def z118_6:LC:=.seq (.stm [3,5,10] [sd 11 (.eq 5 (ki 2)),kM 10 11]) (.cond 10 z118_8 z118_9)
def z118_3:LC:=.seq (.stm [3,5,6] [sd 7 (.eq 5 (ki 1)),kM 6 7]) (.cond 6 z118_5 z118_6)
def z118_0:LC:=.seq (.seq (.stm [3,5] [kM 5 0]) (.block 0 z118_3)) (.seq (.stm [4] [kM 4 kf]) .ret)
def z118:LC:=.seq (.stm [0,3] [sd 3 (.box 1),kM 4 kf]) z118_0
theorem jkR:jad Tryz.prog eqs0 16 z118 [.t 4] 18=true:=by kernel_rfl
end
section
open Go.RowKit
set_option maxRecDepth 100000
set_option maxHeartbeats 4000000
theorem jtw {p:CD→Bool}{L:List CD}{k:Nat}(h1:p (L.getD k default)=true) (h:∀j,j<k→p (L.getD j default)=true):∀j,j<k+1→p (L.getD j default)=true:=fun j hj=>by
 rcases Nat.lt_or_ge j k with q|q
 ·exact h j q
 ·rw[show j=k by omega]
  exact h1
theorem jtx {p:CD→Bool}{L:List CD}{k:Nat}(hk:L.length≤k) (h:∀j,j<k→p (L.getD j default)=true):L.all p=true:=by
 rw[List.all_eq_true]
 intro c hc
 obtain⟨j,hj,rfl⟩:=List.mem_iff_getElem.1 hc
 have:=h j (by omega)
 rwa [List.getD_eq_getElem?_getD,List.getElem?_eq_getElem hj,Option.getD_some]at this
theorem jvO {p:CD→Bool}{L:List CD}{k:Nat}(hk:k<L.length) (h:p (L.getD k default)=false):L.all p=false:=by
 rw[List.all_eq_false]
 refine⟨L.getD k default,jlk hk,?_⟩
 rw[h]
 decide
abbrev jty:List AK:=[.agg [.any,.any,.sl .cell,.any,.any,.any,.any,.any,.sl .str]]
abbrev q_rf1 (k r:Int) (L:List CD) (x y:Int) (hd:Bool) (mo:Int) (ti:ByteArray) (l:List ByteArray):QA:=([.agg [.int .i64 k,.int .i64 r,.vec .cell L,.int .i64 x,.int .i64 y,.bool hd,.int .u8 mo,.str ti,.vec .str l]],(ScrOk L l∧SLen ti)∧0≤mo,.ret (.bool (jaL k r L x y mo ti l)))
def sp_rf1:=spQ (u9 q_rf1)
theorem jjM:W9 (hA sp_rf1) q_rf1:=w9 (aA rfl)
theorem jyc:Al 29 sp_rf1:=ofA (u9 q_rf1) fun⟨k,r,L,x,y,hd,mo,ti,l⟩ hG=>tfi (.f jcY jb7 jcZ .nil) 0 jff (by
 dsimp only[u9,q_rf1]at hG ⊢
 have zc:=Hk.mk (@jbv)
 obtain⟨⟨hs,ht⟩,hm⟩:=hG
 have hl:=hs.len
 have hl2:=hs.links
 obtain⟨R,hR⟩:∃R,jai k r L x y mo ti l=R:=⟨_,rfl⟩
 rw[jaL,hR]
 have hw:=hR
 cases R
 ·repeat' first|exact hs|exact ht|refine tU ?_|refine qaa [] [] rfl ?_|refine qab ?_ ?_|(refine tI ?_;intro hyp)|intro hyp0|exact tZ|omega
 ·repeat' first|exact hs|exact ht|refine tU ?_|refine qaa [] [] rfl ?_|refine qab ?_ ?_|(refine tI ?_;intro hyp)|intro hyp0|exact tZ|omega
  ·have hex:(decide (l.length=0)&&(mo==0))=false:=by
    rw[Bool.and_eq_false_iff]
    simp only[decide_eq_false_iff_not,beq_eq_false_iff_ne]
    omega
   rw[hex,Bool.false_and]
  ·have hex:l.length=0∧mo=0:=by omega
   rw[hex.1,hex.2,show decide (0=0)=true from rfl,show ((0:Int)==0)=true from rfl,Bool.true_and,Bool.true_and]
   refine T.loop (fun m:Nat=>⟨[(1,.ptr 0 0 0),(20,.int .i64 L.length),(21,.int .i64 m)],[.box [.int .i64 k,.int .i64 r,.vec .cell L,.int .i64 x,.int .i64 y,.bool hd,.int .u8 mo,.str ti,.vec .str l]]⟩) (fun m=>m≤L.length∧∀j,j<m→fit1 (L.getD j default)=true) (fun m=>L.length-m) 0 ⟨by omega,fun j hj=>by omega⟩ (qaa [0] [] rfl (by exact tF)) (fun m ⟨hk,hall⟩=>?_)
   repeat' first|refine tU ?_|refine qaa [] [] rfl ?_|refine qab ?_ ?_|(refine tI ?_;intro hyp)|intro hyp0|exact tZ|omega
   ·exact (jvO (k:=m) (by omega) (Bool.eq_false_iff.2 fun q=>by
     simp[fit1]at q
     simp at hyp
     omega)).symm
   ·exact⟨m+1,⟨by omega,jtw (by simp only[fit1,Bool.and_eq_true,decide_eq_true_eq,beq_iff_eq];omega) hall⟩,by omega,qaa [0] [] rfl (by exact tF)⟩
   ·exact (jtx (by omega) hall).symm)
theorem jtz:Fre 29 sp_rf1:=ofF (u9 q_rf1) jyc fun _=>rfl
abbrev jtA:List AK:=[.agg [.any,.any,.sl .cell,.any,.any,.any,.any,.any,.sl .str]]
abbrev q_rf2 (k r:Int) (L:List CD) (x y:Int) (hd:Bool) (mo:Int) (ti:ByteArray) (l:List ByteArray):QA:=([.agg [.int .i64 k,.int .i64 r,.vec .cell L,.int .i64 x,.int .i64 y,.bool hd,.int .u8 mo,.str ti,.vec .str l]],(ScrOk L l∧SLen ti)∧0≤mo,.ret (.bool (jaO k r L x y mo ti l)))
def sp_rf2:=spQ (u9 q_rf2)
theorem jjN:W9 (hA sp_rf2) q_rf2:=w9 (aA rfl)
theorem jyd:Al 30 sp_rf2:=ofA (u9 q_rf2) fun⟨k,r,L,x,y,hd,mo,ti,l⟩ hG=>tfi (.f jcY jb7 jcZ .nil) 0 jfg (by
 dsimp only[u9,q_rf2]at hG ⊢
 have zc:=Hk.mk (@jbv)
 obtain⟨⟨hs,ht⟩,hm⟩:=hG
 have hl:=hs.len
 have hl2:=hs.links
 obtain⟨R,hR⟩:∃R,jai k r L x y mo ti l=R:=⟨_,rfl⟩
 rw[jaO,hR]
 have hw:=hR
 cases R
 ·repeat' first|exact hs|exact ht|refine tU ?_|refine qaa [] [] rfl ?_|refine qab ?_ ?_|(refine tI ?_;intro hyp)|intro hyp0|exact tZ|omega
 ·repeat' first|exact hs|exact ht|refine tU ?_|refine qaa [] [] rfl ?_|refine qab ?_ ?_|(refine tI ?_;intro hyp)|intro hyp0|exact tZ|omega
  ·have hex:decide (l.length=0)=false:=by
    rw[decide_eq_false_iff_not]
    omega
   rw[hex,Bool.false_and]
  ·have hex:l.length=0:=by omega
   rw[hex,show decide (0=0)=true from rfl,Bool.true_and]
   refine T.loop (fun m:Nat=>⟨[(1,.ptr 0 0 0),(15,.int .i64 L.length),(16,.int .i64 m)],[.box [.int .i64 k,.int .i64 r,.vec .cell L,.int .i64 x,.int .i64 y,.bool hd,.int .u8 mo,.str ti,.vec .str l]]⟩) (fun m=>m≤L.length∧∀j,j<m→fit2 (L.getD j default)=true) (fun m=>L.length-m) 0 ⟨by omega,fun j hj=>by omega⟩ (qaa [0] [] rfl (by exact tF)) (fun m ⟨hk,hall⟩=>?_)
   repeat' first|refine tU ?_|refine qaa [] [] rfl ?_|refine qab ?_ ?_|(refine tI ?_;intro hyp)|intro hyp0|exact tZ|omega
   ·exact (jvO (k:=m) (by omega) (Bool.eq_false_iff.2 fun q=>by
     simp[fit2]at q
     simp at hyp
     omega)).symm
   ·exact⟨m+1,⟨by omega,jtw (by simp only[fit2,beq_iff_eq];omega) hall⟩,by omega,qaa [0] [] rfl (by exact tF)⟩
   ·exact (jtx (by omega) hall).symm)
theorem jtB:Fre 30 sp_rf2:=ofF (u9 q_rf2) jyd fun _=>rfl
abbrev jye:List AK:=[.any,.agg [.any,.any,.sl .cell,.any,.any,.any,.any,.any,.sl .str]]
abbrev q_rfV (v k r:Int) (L:List CD) (x y:Int) (hd:Bool) (mo:Int) (ti:ByteArray) (l:List ByteArray):QA:=([.int .i64 v,.agg [.int .i64 k,.int .i64 r,.vec .cell L,.int .i64 x,.int .i64 y,.bool hd,.int .u8 mo,.str ti,.vec .str l]],(ScrOk L l∧SLen ti)∧0≤mo,.ret (.bool (jay v k r L x y mo ti l)))
def sp_rfV:=spQ (u10 q_rfV)
theorem jtC:W10 (hA sp_rfV) q_rfV:=w10 (aA rfl)
theorem jyf:Al 16 sp_rfV:=ofA (u10 q_rfV) fun⟨v,k,r,L,x,y,hd,mo,ti,l⟩ hG=>tfi (.f jty jff jtz (.f jtA jfg jtB (.f jcY jb7 jcZ .nil))) 0 jkR (by
 dsimp only[u10,q_rfV]at hG ⊢
 have zc:=Hk.mk (qab @jjM (qab @jjN @jbv))
 obtain⟨⟨hs,ht⟩,hm⟩:=hG
 have hc:(ScrOk L l∧SLen ti)∧0≤mo:=⟨⟨hs,ht⟩,hm⟩
 by_cases h1:v=1
 ·subst h1
  repeat' first|exact hs|exact ht|exact hm|refine tU ?_|refine qaa [] [] rfl ?_|refine qab ?_ ?_|(refine tI ?_;intro hyp)|intro hyp0|exact tZ|omega
  all_goals simp[jay]
 by_cases h2:v=2
 ·subst h2
  repeat' first|exact hs|exact ht|exact hm|refine tU ?_|refine qaa [] [] rfl ?_|refine qab ?_ ?_|(refine tI ?_;intro hyp)|intro hyp0|exact tZ|omega
  all_goals simp[jay]
 by_cases h3:v=3
 ·subst h3
  repeat' first|exact hs|exact ht|exact hm|refine tU ?_|refine qaa [] [] rfl ?_|refine qab ?_ ?_|(refine tI ?_;intro hyp)|intro hyp0|exact tZ|omega
  all_goals simp[jay]
 repeat' first|exact hs|exact ht|exact hm|refine tU ?_|refine qaa [] [] rfl ?_|refine qab ?_ ?_|(refine tI ?_;intro hyp)|intro hyp0|exact tZ|omega
 all_goals simp[jay,h1,h2,h3])
theorem jyg:Fre 16 sp_rfV:=ofF (u10 q_rfV) jyf fun _=>rfl
end
end
end Go.Proofs.YtienkkicehmchaaGreatDoor
