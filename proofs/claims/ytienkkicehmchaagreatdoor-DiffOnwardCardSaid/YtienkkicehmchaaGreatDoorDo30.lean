/- Texts of this claim, merged by a program of this claim: FNum, KRowsA, FRwA. -/
import Derived.Test.YtienkkicehmchaaGreatDoorDo14
import Derived.Test.YtienkkicehmchaaGreatDoorDo15
import Derived.Test.YtienkkicehmchaaGreatDoorDo17
import Derived.Test.YtienkkicehmchaaGreatDoorDo20
import Derived.Test.YtienkkicehmchaaGreatDoorDo5
import Derived.Test.YtienkkicehmchaaGreatDoorDo6
namespace Go.Proofs.YtienkkicehmchaaGreatDoor
open And renaming intro→qaa
open Cos renaming intro→qab
open Int renaming toNat_natCast→qac,natCast_mul→qad,natCast_add→qae
noncomputable section
set_option linter.unusedVariables false
set_option linter.unusedSimpArgs false
section
open Go.RowKit
set_option maxRecDepth 100000
set_option maxHeartbeats 4000000
def nuE (d:List Int) (a:Nat) (e:Int) (s:Nat):Int:=if e=0 then (if d.length<a+s then 2 else 0) else e
def nuV (d:List Int) (a:Nat) (e:Int) (s:Nat):Int:=if e=0∧a+s≤d.length then numV d a s else 0
def nuA (d:List Int) (a:Nat) (e:Int) (s:Nat):Nat:=if e=0∧a+s≤d.length then a+s else a
theorem jzZ {n b:Int}(hn:0≤n) (h:0≤b∧b<256):(((n*256).toNat ||| b.toNat:Nat):Int)=n*256+b:=by
 obtain⟨n,rfl⟩:∃m:Nat,n=m:=⟨n.toNat,by omega⟩
 obtain⟨b,rfl⟩:∃m:Nat,b=m:=⟨b.toNat,by omega⟩
 have h1:((n:Int)*256).toNat=n*256:=by omega
 have h2:b<2 ^ 8:=by omega
 have:=Nat.shiftLeft_add_eq_or_of_lt h2 n
 rw[Nat.shiftLeft_eq]at this
 rw[h1,qac,show n*256=n*2 ^ 8 by omega,←this]
 omega
theorem jop {d:List Int}{a i:Nat}(h:a+i<d.length):numV d a (i+1)=numV d a i*256+d.getD (a+i) 0:=by
 unfold numV
 have:(d.drop a).take (i+1)=(d.drop a).take i++[d.getD (a+i) 0]:=jav (by rw[List.getElem?_drop,jaW h])
 rw[this,jkj]
theorem jik {d:List Int}(h:Bts d) (a i:Nat):0≤numV d a i∧numV d a i<((256 ^ i:Nat):Int):=by
 have h1:=jzy ((d.drop a).take i) fun x hx=>h x (List.mem_of_mem_drop (List.mem_of_mem_take hx))
 have h2:((d.drop a).take i).length≤i:=by rw[List.length_take];omega
 have h3:(256:Nat) ^ ((d.drop a).take i).length≤256 ^ i:=Nat.pow_le_pow_right (by omega) h2
 refine⟨h1.1,Int.lt_of_lt_of_le h1.2 ?_⟩
 have h4:=Int.ofNat_le.2 h3
 rwa [show ((256 ^ ((d.drop a).take i).length:Nat):Int)=(256:Int) ^ ((d.drop a).take i).length by simp]at h4
abbrev q_wnum (d:List Int) (a:Nat) (e s:Int):QM:=(([.ptr 0 0 0,.int .i64 s],[rdr d a e]),(a≤d.length∧d.length≤1000000∧Bts d)∧(1≤s∧s≤8),.ret (.int .u64 (nuV d a e s.toNat)),[rdr d (nuA d a e s.toNat) (nuE d a e s.toNat)])
def msp_wnum:=mspQ (u4 q_wnum)
theorem jkE:W4 (hM msp_wnum) q_wnum:=w4 (aM rfl)
theorem jvi:Mu 139 msp_wnum:=ofM (u4 q_wnum) fun⟨d,a,e,s⟩ hG=>tfi .nil 1 ja2 (by
 dsimp only[u4,q_wnum]at hG ⊢
 obtain⟨⟨h1,h2,h3⟩,h4,h5⟩:=hG
 obtain⟨s,rfl⟩:∃m:Nat,s=m:=⟨s.toNat,by omega⟩
 simp only[qac]
 by_cases he:e=0
 ·subst he
  by_cases hl:d.length<a+s
  ·have e1:nuE d a 0 s=2:=by rw[nuE,if_pos rfl,if_pos hl]
   have e2:nuV d a 0 s=0:=by rw[nuV,if_neg (by omega)]
   have e3:nuA d a 0 s=a:=by rw[nuA,if_neg (by omega)]
   rw[e1,e2,e3]
   repeat' first|refine tU ?_|refine qab [0] [] rfl ?_|refine qaa ?_ ?_|(refine tI ?_;intro hyp)|intro hyp0|exact tZ|omega
  ·have e1:nuE d a 0 s=0:=by rw[nuE,if_pos rfl,if_neg hl]
   have e2:nuV d a 0 s=numV d a s:=by rw[nuV,if_pos (by omega)]
   have e3:nuA d a 0 s=a+s:=by rw[nuA,if_pos (by omega)]
   rw[e1,e2,e3]
   repeat' first|refine tU ?_|refine qab [0] [] rfl ?_|refine qaa ?_ ?_|(refine tI ?_;intro hyp)|intro hyp0|exact tZ|omega
   refine T.loop (fun i:Nat=>⟨[(0,.ptr 0 0 0),(5,.int .u64 (numV d a i)),(42,.int .i64 s),(43,.int .i64 i)],[rdr d (a+i) 0]⟩) (fun i=>i≤s) (fun i=>s-i) 0 (by omega) (qab [0] [] rfl (by exact tF)) (fun i hi=>?_)
   have hv:=jik h3 a i
   by_cases his:i<s
   ·have hp:(256:Nat) ^ i≤256 ^ 7:=Nat.pow_le_pow_right (by omega) (by omega)
    have hb:=h3 _ (jaX (L:=d) (k:=a+i) (d:=0) (by omega))
    have hbits:(8:Int)≤(IntKind.u64.bits:Int):=Int.ofNat_le.2 (show 8≤64 by omega)
    have hor:=jzZ (n:=numV d a i) hv.1 hb
    have hw:=qaa (jhd (n:=numV d a i*256) (by omega)) (qaa (eq_true hbits) hor)
    have hsn:=jop (d:=d) (a:=a) (i:=i) (by omega)
    repeat' first|refine tU ?_|refine qaa ?_ ?_|(refine tI ?_;intro hyp)|intro hyp0|exact tZ|omega
    exact⟨i+1,by omega,by omega,qab [0] [] rfl (by rw[hsn];exact tF)⟩
   ·obtain rfl:i=s:=by omega
    repeat' first|refine tU ?_|refine qaa ?_ ?_|(refine tI ?_;intro hyp)|intro hyp0|exact tZ|omega
    exact qab [0] [] rfl (by exact tF)
 ·have e1:nuE d a e s=e:=by rw[nuE,if_neg he]
  have e2:nuV d a e s=0:=by rw[nuV,if_neg (by omega)]
  have e3:nuA d a e s=a:=by rw[nuA,if_neg (by omega)]
  rw[e1,e2,e3]
  have hw:=eq_false he
  repeat' first|refine tU ?_|refine qab [0] [] rfl ?_|refine qaa ?_ ?_|(refine tI ?_;intro hyp)|intro hyp0|exact tZ|omega)
def tcE (d:List Int) (a:Nat) (e:Int) (n:Nat):Int:=if e=0 then (if d.length<a+n then 2 else 0) else e
def tcV (d:List Int) (a:Nat) (e:Int) (n:Nat):List Int:=if e=0∧a+n≤d.length then (d.drop a).take n else []
def tcA (d:List Int) (a:Nat) (e:Int) (n:Nat):Nat:=if e=0∧a+n≤d.length then a+n else a
abbrev q_wtk (d:List Int) (a:Nat) (e:Int) (n:Nat):QM:=(([.ptr 0 0 0,.int .i64 n],[rdr d a e]),(a≤d.length∧d.length≤1000000)∧n≤1000000,.ret (.vec (.int .u8) (tcV d a e n)),[rdr d (tcA d a e n) (tcE d a e n)])
def msp_wtk:=mspQ (u4 q_wtk)
theorem jsp:W4 (hM msp_wtk) q_wtk:=w4 (aM rfl)
theorem jA4:Mu 141 msp_wtk:=ofM (u4 q_wtk) fun⟨d,a,e,n⟩ hG=>tfi .nil 1 jbw (by
 dsimp only[u4,q_wtk]at hG ⊢
 obtain⟨⟨h1,h2⟩,h4⟩:=hG
 by_cases he:e=0
 ·subst he
  by_cases hl:d.length<a+n
  ·have e1:tcE d a 0 n=2:=by rw[tcE,if_pos rfl,if_pos hl]
   have e2:tcV d a 0 n=[]:=by rw[tcV,if_neg (by omega)]
   have e3:tcA d a 0 n=a:=by rw[tcA,if_neg (by omega)]
   rw[e1,e2,e3]
   repeat' first|refine tU ?_|refine qaa ?_ ?_|(refine tI ?_;intro hyp)|intro hyp0|exact tZ|omega
   exact qab [0] [] rfl (by exact tF)
  ·have e1:tcE d a 0 n=0:=by rw[tcE,if_pos rfl,if_neg hl]
   have e2:tcV d a 0 n=(d.drop a).take n:=by rw[tcV,if_pos (by omega)]
   have e3:tcA d a 0 n=a+n:=by rw[tcA,if_pos (by omega)]
   rw[e1,e2,e3]
   have hl2:((d.drop a).take n).length=n:=by simp;omega
   have hw:=hl2
   repeat' first|refine tU ?_|refine qaa ?_ ?_|(refine tI ?_;intro hyp)|intro hyp0|exact tZ|omega
   refine qab [0] [1] rfl ?_
   simp only[PB,SAM,seval,rdB,Hk.out zc]
   simp[hl2,crs,crsL,ETy.cast_same,List.take_take]
 ·have e1:tcE d a e n=e:=by rw[tcE,if_neg he]
  have e2:tcV d a e n=[]:=by rw[tcV,if_neg (by omega)]
  have e3:tcA d a e n=a:=by rw[tcA,if_neg (by omega)]
  rw[e1,e2,e3]
  have hw:=eq_false he
  repeat' first|refine tU ?_|refine qaa ?_ ?_|(refine tI ?_;intro hyp)|intro hyp0|exact tZ|omega
  exact qab [0] [] rfl (by exact tF))
end
section
open Go.RowKit
set_option maxRecDepth 100000
def z114_1:LC:=.seq (.stm [0,10] [kM 3 0,sd 4 (.call 140 [3]),sd 5 (.eq 4 (ki 0)),kM 6 5,.g 6 true [kM 7 0,sd 8 (.call 147 [7]),sd 9 (.cmp .gtr 8 (ki 0))] 10 9 kf]) (.cond 10 (.seq (.stm [2] [kM 2 (ki 6)]) .ret) .skip)
def z114_4:LC:=.seq (.stm [2] [kM 11 0,sd 12 (.call 140 [11]),kM 2 12]) .ret
def z114_0:LC:=.seq z114_1 z114_4
def z114:LC:=.seq (.stm [0] [kM 2 (ki 0)]) z114_0
theorem jeA:jad Tryz.prog eqs0 165 z114 [.t 2] 13=true:=by kernel_rfl
def z115_0:LC:=.seq (.stm [1] [kL 2 1 0,sd 3 (.call 139 [2,(ki 1)]),sd 4 (.conv .i64 true 3),kM 1 4]) .ret
def z115:LC:=.seq (.stm [0] [kM 1 (ki 0)]) z115_0
theorem jgk:jad Tryz.prog eqs0 138 z115 [.t 1] 5=true:=by kernel_rfl
def z116_12:LC:=.seq (.stm [0,3,6,11,12,30] [kM 17 0,sd 18 (.call 140 [17]),sd 19 (.eq 18 (ki 0)),kM 20 19,.g 20 true [kM 21 6,kM 22 5,sd 23 (.cmp .leq 21 22),kM 24 23,.g 24 false [kM 25 6,kF 26 3 1,kL 27 1 26,sd 28 (.cmp .geq 25 27)] 29 kt 28] 30 29 kf]) (.cond 30 (.seq (.stm [4] [kM 4 (ki 3)]) .ret) .skip)
def z116_29:LC:=.seq (.stm [4] [kM 54 0,sd 55 (.call 140 [54]),kM 4 55]) .ret
def z116_27:LC:=.seq (.stm [0,3,5,6,7,8,11,12,33,34,53] [kM 51 0,sd 52 (.call 140 [51]),sd 53 (.cmp .neq 52 (ki 0))]) (.cond 53 z116_29 .skip)
def z116_31:LC:=.seq (.stm [0,3,5,6,7,8,11,12,33,34,70] [sd 56 (.load true 6 8),sd 57 (.call 156 [56]),sd 58 (.un .not 57),kM 59 58,.g 59 false [kF 60 8 2,kF 61 60 0,kL 62 1 61,sd 63 (.cmp .gtr 62 (.c (.int .u32 256)))] 64 kt 63,kM 65 64,.g 65 false [kF 66 8 2,kF 67 66 1,kL 68 1 67,sd 69 (.cmp .gtr 68 (.c (.int .u32 256)))] 70 kt 69]) (.cond 70 (.seq (.stm [4] [kM 4 (ki 3)]) .ret) .skip)
def z116_30:LC:=.seq z116_31 (.stm [0,3,5,6,11,12,33,34] [kF 71 3 2,kL 72 1 71,kM 73 6,kF 74 3 0,kL 75 1 74,sd 76 (.ari .mul false 73 75),kM 77 7,sd 78 (.add 76 77),sd 79 (.load true 6 8),sd 80 (.ixS 6 72 78),sn (.store 6 80 79)])
def z116_25:LC:=.seq (.stm [0,3,5,6,7,8,11,12,33,34] [kM 37 0,sd 38 (.call 139 [37,(ki 4)]),sd 39 (.conv .i32 true 38),kM 40 0,sd 41 (.call 139 [40,(ki 2)]),sd 42 (.conv .u32 true 41),kM 43 0,sd 44 (.call 139 [43,(ki 2)]),sd 45 (.conv .u32 true 44),kM 46 0,sd 47 (.call 139 [46,(ki 1)]),sd 48 (.conv .u8 true 47),sd 49 (.build [.int .u32 0,.int .u32 0,.int .u8 0,.int .u16 0] [(0,1,42),(1,1,45),(2,1,48)]),sd 50 (.build [.int .i32 0,.int .u8 0,.int .u32 0,.int .u32 0,.int .u8 0,.int .u16 0] [(0,1,39),(2,4,49)]),sd 8 (.zero [.int .i32 0,.int .u8 0,.int .u32 0,.int .u32 0,.int .u8 0,.int .u16 0]),sn (.store 6 8 50)]) (.seq z116_27 z116_30)
def z116_24:LC:=.seq (.stm [0,3,5,6,7,11,12,33,34] [kM 36 34,kM 7 36]) z116_25
def z116_22:LC:=.seq (.block 3 z116_24) (.stm [0,3,5,6,11,12,33,34] [sd 81 (.add 34 (ki 1)),kM 34 81])
def z116_19:LC:=.seq (.stm [0,3,5,6,11,12,33,34,35] [sd 35 (.lt 34 33)]) (.seq (.cond 35 .skip (.exit 2)) z116_22)
def z116_18:LC:=.loop z116_19
def z116_16:LC:=.seq (.stm [0,3,5,6,11,12,33,34] [kF 32 3 0,kL 33 1 32,kM 34 (ki 0)]) (.block 2 z116_18)
def z116_11:LC:=.seq z116_12 (.seq (.stm [0,3,5,6,11,12] [kM 31 6,kM 5 31]) z116_16)
def z116_10:LC:=.seq (.stm [0,3,5,6,11,12] [kM 14 0,sd 15 (.call 139 [14,(ki 1)]),sd 16 (.conv .i64 true 15),kM 6 16]) z116_11
def z116_8:LC:=.seq (.block 1 z116_10) (.stm [0,3,5,11,12] [sd 82 (.add 12 (ki 1)),kM 12 82])
def z116_5:LC:=.seq (.stm [0,3,5,11,12,13] [sd 13 (.lt 12 11)]) (.seq (.cond 13 .skip (.exit 0)) z116_8)
def z116_4:LC:=.loop z116_5
def z116_2:LC:=.seq (.stm [0,3,5,11,12] [kM 9 0,sd 10 (.call 139 [9,(ki 1)]),sd 11 (.conv .i64 true 10),kM 12 (ki 0)]) (.block 0 z116_4)
def z116_34:LC:=.seq (.stm [4] [kM 83 0,sd 84 (.call 165 [83]),kM 4 84]) .ret
def z116_0:LC:=.seq (.stm [0,3,5] [sd 5 (.mov (ki (-1)))]) (.seq z116_2 z116_34)
def z116:LC:=.seq (.stm [0,3] [sd 3 (.box 1),kM 4 (ki 0)]) z116_0
theorem jkF:jad Tryz.prog eqs0 142 z116 [.t 4] 85=true:=by kernel_rfl
def z117_3:LC:=.seq (.stm [4,5] [sd 19 (.build [.int .i64 0,.int .i64 0,.nils,.int .i64 0,.int .i64 0,.bool false,.int .u8 0,.str (bs []),.nils] []),sn (.store 9 4 19),kM 5 (ki 1)]) .ret
def z117_1:LC:=.seq (.stm [1,2,4,18] [sd 16 (.load true 9 2),sd 17 (.call 98 [16]),sd 18 (.un .not 17)]) (.cond 18 z117_3 .skip)
def z117_10:LC:=.seq (.stm [4,5] [sd 36 (.build [.int .i64 0,.int .i64 0,.nils,.int .i64 0,.int .i64 0,.bool false,.int .u8 0,.str (bs []),.nils] []),kL 37 1 6,sd 38 (.call 140 [37]),sn (.store 9 4 36),kM 5 38]) .ret
def z117_8:LC:=.seq (.stm [2,4,6,7,8,9,10,11,12,35] [kL 33 1 6,sd 34 (.call 140 [33]),sd 35 (.cmp .neq 34 (ki 0))]) (.cond 35 z117_10 .skip)
def z117_16:LC:=.seq (.stm [4,5] [sd 52 (.build [.int .i64 0,.int .i64 0,.nils,.int .i64 0,.int .i64 0,.bool false,.int .u8 0,.str (bs []),.nils] []),sn (.store 9 4 52),kM 5 (ki 3)]) .ret
def z117_19:LC:=.seq (.stm [4,5] [sd 69 (.build [.int .i64 0,.int .i64 0,.nils,.int .i64 0,.int .i64 0,.bool false,.int .u8 0,.str (bs []),.nils] []),sn (.store 9 4 69),kM 5 (ki 15)]) .ret
def z117_22:LC:=.seq (.stm [2,4,6,7,10,11,12,13] [sd 74 (.load true 9 2),sn (.store 9 13 74)]) (.stm [4,6,7,10,11,12,13] [kF 75 2 2,kL 76 1 75,sd 77 (.call 42 [76]),kF 78 13 2,sn (.store 1 78 77)])
def z117_20:LC:=.seq (.stm [2,4,6,7,10,11,12,13,70] [kM 71 12,sd 72 (.ari .and false 71 (ki 4)),sd 73 (.eq 72 (ki 0)),kM 70 73]) (.cond 70 z117_22 .skip)
def z117_17:LC:=.seq (.stm [2,4,6,7,10,11,12,13,53] [kM 54 12,sd 55 (.ari .and false 54 (ki 4)),sd 56 (.eq 55 (ki 0)),kM 57 56,.g 57 true [kM 58 8,kF 59 2 0,kL 60 1 59,sd 61 (.cmp .neq 58 60),kM 62 61,.g 62 false [kM 63 9,kF 64 2 1,kL 65 1 64,sd 66 (.cmp .neq 63 65)] 67 kt 66] 68 67 kf,kM 53 68]) (.cond 53 z117_19 z117_20)
def z117_14:LC:=.seq (.stm [2,4,6,7,8,9,10,11,12,13,45] [kM 46 12,sd 47 (.cmp .gtr 46 (ki 7)),kM 48 47,.g 48 false [kM 49 14,sd 50 (.cmp .neq 49 (ki 0))] 51 kt 50,kM 45 51]) (.cond 45 z117_16 z117_17)
def z117_13:LC:=.block 0 z117_14
def z117_26:LC:=.cond 89 (.reg [4,6,13] [kR 0 90 (.ld 1 6),kR 1 91 (.mov 7),⟨2,some 92,none,.callv 91 [],true,true⟩,⟨3,some 93,none,.call 141 [90,92],false,true⟩,kR 4 94 (.b2s 93),kR 5 95 (.fa 13 7),⟨6,none,none,.store 1 95 94,false,true⟩]) .skip
def z117_25:LC:=.seq (.stm [4,6,7,13,89] [kM 87 12,sd 88 (.ari .and false 87 (ki 2)),sd 89 (.cmp .neq 88 (ki 0))]) z117_26
def z117_31:LC:=.seq (.stm [4,5] [sd 101 (.build [.int .i64 0,.int .i64 0,.nils,.int .i64 0,.int .i64 0,.bool false,.int .u8 0,.str (bs []),.nils] []),kM 102 15,sn (.store 9 4 101),kM 5 102]) .ret
def z117_29:LC:=.seq (.stm [4,13,15,100] [kM 99 15,sd 100 (.cmp .neq 99 (ki 0))]) (.cond 100 z117_31 .skip)
def z117_28:LC:=.seq (.stm [4,13,15] [kL 96 1 6,sd 97 (.load true 9 13),sd 98 (.call 142 [96,97]),kM 15 98]) z117_29
def z117_35:LC:=.seq (.stm [4,5] [sd 106 (.build [.int .i64 0,.int .i64 0,.nils,.int .i64 0,.int .i64 0,.bool false,.int .u8 0,.str (bs []),.nils] []),sn (.store 9 4 106),kM 5 (ki 3)]) .ret
def z117_33:LC:=.seq (.stm [4,13,105] [sd 103 (.load true 9 13),sd 104 (.call 98 [103]),sd 105 (.un .not 104)]) (.cond 105 z117_35 .skip)
def z117_36:LC:=.seq (.stm [4,5] [sd 107 (.load true 9 13),sn (.store 9 4 107),kM 5 (ki 0)]) .ret
def z117_23:LC:=.seq (.stm [4,6,7,12,13] [kM 79 10,kM 80 11,kM 81 12,sd 82 (.ari .and false 81 (ki 1)),sd 83 (.cmp .neq 82 (ki 0)),kF 84 13 3,sn (.store 1 84 79),kF 85 13 4,sn (.store 1 85 80),kF 86 13 5,sn (.store 1 86 83)]) (.seq z117_25 (.seq z117_28 (.seq z117_33 z117_36)))
def z117_11:LC:=.seq (.stm [2,4,6,7,8,9,10,11,12,13,14] [kM 40 8,kM 41 9,sd 42 (.call 136 [40,41]),kM 39 42,sd 43 (.ext 39 0),sd 44 (.ext 39 1),sd 13 (.zero [.int .i64 0,.int .i64 0,.nils,.int .i64 0,.int .i64 0,.bool false,.int .u8 0,.str (bs []),.nils]),sn (.store 9 13 43),kM 14 44]) (.seq z117_13 z117_23)
def z117_6:LC:=.seq (.stm [2,4,6,7,8,9,10,11,12] [kM 23 7,sd 24 (.callv 23 []),kM 25 7,sd 26 (.callv 25 []),kM 27 7,sd 28 (.callv 27 []),kM 29 7,sd 30 (.callv 29 []),kM 31 7,sd 32 (.callv 31 []),kM 8 24,kM 9 26,kM 10 28,kM 11 30,kM 12 32]) (.seq z117_8 z117_11)
def z117_5:LC:=.seq (.stm [2,4,6,7] [sd 22 (.mkfn 138 [6]),kM 7 22]) z117_6
def z117_4:LC:=.seq (.stm [2,4,6] [kM 20 1,sd 21 (.call 137 [20]),sd 6 (.zero [.nilptr]),sn (.store 1 6 21)]) z117_5
def z117_0:LC:=.seq z117_1 z117_4
def z117:LC:=.seq (.stm [1,2,4] [sd 2 (.box 0),sd 4 (.zero [.int .i64 0,.int .i64 0,.nils,.int .i64 0,.int .i64 0,.bool false,.int .u8 0,.str (bs []),.nils]),kM 5 (ki 0)]) z117_0
theorem jiM:jad Tryz.prog eqs0 101 z117 [.c 4 true 9,.t 5] 108=true:=by kernel_rfl
end
section
open Go.RowKit
set_option maxRecDepth 100000
set_option maxHeartbeats 4000000
def endE (d:List Int) (a:Nat) (e:Int):Int:=if e=0 then (if a<d.length then 6 else 0) else e
abbrev q_wend (d:List Int) (a:Nat) (e:Int):QM:=(([.ptr 0 0 0],[rdr d a e]),a≤d.length∧d.length≤1000000,.ret (.int .i64 (endE d a e)),[rdr d a e])
def msp_wend:=mspQ (u3 q_wend)
theorem jpH:W3 (hM msp_wend) q_wend:=w3 (aM rfl)
theorem jz0:Mu 165 msp_wend:=ofM (u3 q_wend) fun⟨d,a,e⟩ hG=>tfi (.m jaP jie (.m jbv jmT .nil)) 1 jeA (by
 dsimp only[u3,q_wend]at hG ⊢
 have zc:=Hk.mk (qaa @jcx @jfC)
 obtain⟨h1,h2⟩:=hG
 by_cases he:e=0
 ·subst he
  have e1:endE d a 0=if a<d.length then 6 else 0:=if_pos rfl
  repeat' first|refine tU ?_|refine qaa ?_ ?_|(refine tI ?_;intro hyp)|intro hyp0|exact tZ|omega
  ·rw[if_pos (by omega)]at e1
   exact qab [0] [] rfl (by rw[e1];exact tF)
  ·rw[if_neg (by omega)]at e1
   exact qab [0] [] rfl (by rw[e1];exact tF)
 ·have hw:=eq_false he
  have e1:endE d a e=e:=if_neg he
  repeat' first|refine tU ?_|refine qaa ?_ ?_|(refine tI ?_;intro hyp)|intro hyp0|exact tZ|omega
  exact qab [0] [] rfl (by rw[e1];exact tF))
theorem jyg {d:List Int}(h:Bts d) (a:Nat) (e:Int) (s:Nat):0≤nuV d a e s∧nuV d a e s<((256 ^ s:Nat):Int):=by
 unfold nuV
 split
 ·exact jik h a s
 ·exact⟨Int.le_refl 0,by have:0<256 ^ s:=Nat.pow_pos (by omega);omega⟩
theorem joq {d:List Int}{a:Nat}(h:a≤d.length) (e:Int) (s:Nat):nuA d a e s≤d.length:=by
 unfold nuA
 split<;>omega
abbrev q_nclo (d:List Int) (a e:Int):QM:=(([.ptr 0 0 0],[.box [.ptr 1 0 0],.box [.vec (.int .u8) d,.int .i64 a,.int .i64 e]]),(0≤a∧a≤d.length)∧d.length≤1000000∧Bts d,.ret (.int .i64 (nuV d a.toNat e 1)),[.box [.ptr 1 0 0],rdr d (nuA d a.toNat e 1) (nuE d a.toNat e 1)])
def msp_nclo:=mspQ (u3 q_nclo)
theorem jpI:W3 (hM msp_nclo) q_nclo:=w3 (aM rfl)
theorem jz1:Mu 138 msp_nclo:=ofM (u3 q_nclo) fun⟨d,a,e⟩ hG=>tfi (.m ja2 jvi .nil) 2 jgk (by
 dsimp only[u3,q_nclo]at hG ⊢
 have zc:=Hk.mk (@jkE)
 obtain⟨⟨h0,h1⟩,h2,h3⟩:=hG
 obtain⟨a,rfl⟩:∃m:Nat,a=m:=⟨a.toNat,by omega⟩
 simp only[qac]
 have h1':a≤d.length:=by omega
 have hb:=jyg h3 a e 1
 have hw:IntKind.i64.wrap (nuV d a e 1)=nuV d a e 1:=jf7 (by omega)
 repeat' first|exact⟨h1',h2,h3⟩|refine tU ?_|refine qaa ?_ ?_|(refine tI ?_;intro hyp)|intro hyp0|exact tZ|omega
 exact qab [0,1] [] rfl (by exact tF))
theorem jq4 (n:Int):I32 (IntKind.i32.wrap n):=by
 simp only[IntKind.wrap,IntKind.signed,IntKind.bits]
 constructor<;>simp<;>split<;>omega
def rwH (d:List Int) (q:Int×Nat×List CD):KH:=if q.1=0 then [rdr d q.2.1 0,.seq .cell q.2.2] else [.dead,.dead]
def rdG (d:List Int) (k:Nat) (r:Int) (a:Nat) (e:Int) (L:List CD):Int×Nat×List CD :=
 if nuE d a e 1≠0 then (nuE d a e 1,0,[]) else
 if (rwG d k r (d.getD a 0).toNat (a+1) (-1) L).1≠0 then ((rwG d k r (d.getD a 0).toNat (a+1) (-1) L).1,0,[]) else
 if (rwG d k r (d.getD a 0).toNat (a+1) (-1) L).2.1<d.length then (6,0,[]) else
 (0,(rwG d k r (d.getD a 0).toNat (a+1) (-1) L).2)
theorem jxA {d:List Int}{a:Nat}(h:a<d.length):numV d a 1=d.getD a 0:=by
 have:=jop (d:=d) (a:=a) (i:=0) (by omega)
 rw[this]
 simp[numV,numR]
theorem jfH {d:List Int}{a:Nat}(h:a<d.length):nuE d a 0 1=0∧nuV d a 0 1=d.getD a 0∧nuA d a 0 1=a+1 :=
 ⟨by rw[nuE,if_pos rfl,if_neg (by omega)],by rw[nuV,if_pos ⟨rfl,by omega⟩,jxA h],by rw[nuA,if_pos ⟨rfl,by omega⟩]⟩
theorem je3 {d:List Int}{a s:Nat}(h:d.length<a+s):nuE d a 0 s=2∧nuV d a 0 s=0∧nuA d a 0 s=a :=
 ⟨by rw[nuE,if_pos rfl,if_pos h],by rw[nuV,if_neg (by omega)],by rw[nuA,if_neg (by omega)]⟩
theorem jm0 {d:List Int}{a s:Nat}(h:a+s≤d.length):nuE d a 0 s=0∧nuV d a 0 s=numV d a s∧nuA d a 0 s=a+s :=
 ⟨by rw[nuE,if_pos rfl,if_neg (by omega)],by rw[nuV,if_pos ⟨rfl,h⟩],by rw[nuA,if_pos ⟨rfl,h⟩]⟩
theorem jlP {d:List Int}{a s:Nat}{e:Int}(h:e≠0):nuE d a e s=e∧nuV d a e s=0∧nuA d a e s=a :=
 ⟨if_neg h,if_neg (fun q=>h q.1),if_neg (fun q=>h q.1)⟩
theorem jA5 (d:List Int) (b:Nat) (M:List CD):rwH d (0,b,M)=[rdr d b 0,.seq .cell M]:=if_pos rfl
theorem jgV (d:List Int){q:Int×Nat×List CD}(h:q.1≠0):rwH d q=[.dead,.dead]:=if_neg h
abbrev q_rread (K R:Nat) (L:List CD) (x y:Int) (hd:Bool) (mo:Int) (ti:ByteArray) (l:List ByteArray) (d:List Int) (a:Nat) (e:Int):QM:=(([.ptr 0 0 0,.agg [.int .i64 K,.int .i64 R,.slice 1 0 6 L.length L.length,.int .i64 x,.int .i64 y,.bool hd,.int .u8 mo,.str ti,.vec .str l]],[rdr d a e,.seq .cell L]),(a≤d.length∧d.length≤1000000∧Bts d)∧(1≤K∧K≤80)∧(1≤R∧R≤24)∧L.length=K*R,.ret (.int .i64 (rdG d K R a e L).1),rwH d (rdG d K R a e L))
def msp_rread:=mspQ (u12 q_rread)
theorem jor:W12 (hM msp_rread) q_rread:=w12 (aM rfl)
theorem jxB:Mu 142 msp_rread:=ofM (u12 q_rread) fun⟨K,R,L,x,y,hd,mo,ti,l,d,a,e⟩ hG=>tfi (.m ja2 jvi (.m jaP jie (.m jeA jz0 (.f [.any] jfR jo1 .nil)))) 2 jkF (by
 dsimp only[u12,q_rread]at hG ⊢
 have zc:=Hk.mk (qaa @jkE (qaa @jcx (qaa @jpH @jh1)))
 obtain⟨hrd,hk,hr,hL⟩:=hG
 have hKR:K*R≤1920:=Nat.mul_le_mul (show K≤80 by omega) (show R≤24 by omega)
 obtain⟨h1,h2,h3⟩:=hrd
 obtain⟨n,hn⟩:∃n:Nat,n=(nuV d a e 1).toNat:=⟨_,rfl⟩
 obtain⟨a1,ha1⟩:∃b,b=nuA d a e 1:=⟨_,rfl⟩
 obtain⟨e1,he1⟩:∃b,b=nuE d a e 1:=⟨_,rfl⟩
 have hv:=jyg h3 a e 1
 have hnv:nuV d a e 1=n:=by omega
 have hnb:n≤255:=by omega
 have ha1l:a1≤d.length:=by rw[ha1];exact joq h1 e 1
 obtain⟨W,hW⟩:∃W,W=rwG d K R n a1 (-1) L:=⟨_,rfl⟩
 have hn0:e1≠0→n=0:=fun q=>by
  by_cases he:e=0
  ·subst he
   by_cases hl:d.length<a+1
   ·have:=(je3 hl).2.1
    omega
   ·exact absurd (he1.trans (jfH (by omega)).1) q
  ·have:=(jlP (d:=d) (a:=a) (s:=1) he).2.1
   omega
 have hG0:rdG d K R a e L=if e1≠0 then (e1,0,[]) else if W.1≠0 then (W.1,0,[]) else if W.2.1<d.length then (6,0,[]) else (0,W.2):=by
  rw[rdG,←he1]
  by_cases q:e1=0
  ·have q0:e=0:=by
    rcases Decidable.em (e=0)with z|z
    ·exact z
    ·have:=(jlP (d:=d) (a:=a) (s:=1) z).1
     omega
   subst q0
   have ql:a<d.length:=by
    rcases Nat.lt_or_ge a d.length with z|z
    ·exact z
    ·have:=(je3 (d:=d) (a:=a) (s:=1) (by omega)).1
     omega
   obtain⟨z1,z2,z3⟩:=jfH ql
   rw[←z2,hnv,←z3,←ha1,qac,←hW]
  ·rw[if_pos q,if_pos q]
 have hw:=qaa hnv (qaa ha1.symm (qaa he1.symm (jf7 (n:=(n:Int)) (by omega))))
 repeat' first|exact⟨h1,h2,h3⟩|refine tU ?_|refine qaa ?_ ?_|(refine tI ?_;intro hyp)|intro hyp0|exact tZ|omega
 refine T.loop (fun q:Nat×Nat×Int×List CD=>⟨[(0,.ptr 0 0 0),(3,.ptr 2 0 0),(5,.int .i64 q.2.2.1),(11,.int .i64 n),(12,.int .i64 q.1)],[rdr d q.2.1 e1,.seq .cell q.2.2.2,.box [.int .i64 K,.int .i64 R,.slice 1 0 6 L.length L.length,.int .i64 x,.int .i64 y,.bool hd,.int .u8 mo,.str ti,.vec .str l]]⟩) (fun q=>(q.1≤n∧q.2.1≤d.length∧q.2.2.2.length=L.length ∧ -1≤q.2.2.1∧q.2.2.1≤255)∧rwG d K R (n-q.1) q.2.1 q.2.2.1 q.2.2.2=W) (fun q=>n-q.1) (0,a1,-1,L) ⟨⟨Nat.zero_le _,ha1l,rfl,by dsimp only;omega,by dsimp only;omega⟩,hW.symm⟩ (qab [0,1,2] [] rfl (by exact tF)) (fun⟨j,b,last,M⟩ ⟨⟨hj,hb,hM,hl1,hl2⟩,hWj⟩=>?_)
 dsimp only at hj hb hM hl1 hl2 hWj ⊢
 by_cases hjn:j<n
 ·have he0:e1=0:=by
   rcases Decidable.em (e1=0)with z|z
   ·exact z
   ·have:=hn0 z
    omega
  subst he0
  rw[if_neg (by decide)]at hG0
  rw[show n-j=(n-(j+1))+1 by omega,rwG]at hWj
  by_cases hbl:d.length≤b
  ·rw[if_pos hbl]at hWj
   rw[←hWj]at hG0
   have hw:=je3 (d:=d) (a:=b) (s:=1) (by omega)
   have hw2:IntKind.i64.wrap 0=0:=rfl
   repeat' first|exact⟨hb,h2,h3⟩|refine tU ?_|refine qaa ?_ ?_|(refine tI ?_;intro hyp)|intro hyp0|exact tZ|omega
   refine T.loop (fun _:Unit=>⟨[(0,.ptr 0 0 0),(3,.ptr 2 0 0),(5,.int .i64 0),(6,.int .i64 0),(11,.int .i64 n),(12,.int .i64 j),(33,.int .i64 K),(34,.int .i64 0)],[rdr d b 2,.seq .cell M,.box [.int .i64 K,.int .i64 R,.slice 1 0 6 L.length L.length,.int .i64 x,.int .i64 y,.bool hd,.int .u8 mo,.str ti,.vec .str l]]⟩) (fun _=>True) (fun _=>0) () trivial (qab [0,1,2] [] rfl (by exact tF)) (fun _ _=>?_)
   have hw:=fun s=>jlP (d:=d) (a:=b) (s:=s) (e:=2) (by decide)
   have hk0:(0:Int)<K:=by omega
   have hw2:=eq_true hk0
   rw[hG0,if_pos (by decide),jgV _ (by decide)]
   repeat' first|exact⟨hb,h2,h3⟩|refine tU ?_|refine qaa ?_ ?_|(refine tI ?_;intro hyp)|intro hyp0|exact tZ|omega
   exact qab [0,1] [] rfl (by exact tF)
  ·rw[if_neg hbl]at hWj
   obtain⟨v,hvv⟩:∃v,v=d.getD b 0:=⟨_,rfl⟩
   rw[←hvv]at hWj
   have hvb:0≤v∧v<256:=by rw[hvv];exact h3 _ (jaX (by omega))
   obtain⟨V,rfl⟩:∃V:Nat,v=V:=⟨v.toNat,by omega⟩
   have h1o:=jfH (d:=d) (a:=b) (by omega)
   rw[←hvv]at h1o
   have hwv:IntKind.i64.wrap (V:Int)=V:=jf7 (by omega)
   have hw:=qaa h1o hwv
   by_cases hyb:(R:Int)≤(V:Int)∨(V:Int)≤last
   ·rw[if_pos hyb]at hWj
    rw[←hWj,if_pos (by decide)]at hG0
    rw[hG0,jgV _ (by decide)]
    have hw2:((V:Int)≤last∨(R:Int)≤(V:Int))=True:=eq_true (hyb.elim .inr .inl)
    repeat' first|exact⟨hb,h2,h3⟩|refine tU ?_|refine qaa ?_ ?_|(refine tI ?_;intro hyp)|intro hyp0|exact tZ|omega
    exact qab [0,1] [] rfl (by exact tF)
   ·rw[if_neg hyb]at hWj
    have hy1:¬(V:Int)≤last:=fun q=>hyb (.inr q)
    have hy2:¬(R:Int)≤(V:Int):=fun q=>hyb (.inl q)
    obtain⟨W2,hW2⟩:∃W2,W2=clG d K (b+1) (V*K) M:=⟨_,rfl⟩
    rw[qac,←hW2]at hWj
    have hVR:V<R:=by omega
    have hVK:(V+1)*K≤K*R:=by rw[Nat.mul_comm K R];exact Nat.mul_le_mul_right K hVR
    have hVK2:(V+1)*K=V*K+K:=by rw[Nat.add_mul,Nat.one_mul]
    have hw2:=qaa (eq_false hy1) (eq_false hy2)
    repeat' first|exact⟨hb,h2,h3⟩|refine tU ?_|refine qaa ?_ ?_|(refine tI ?_;intro hyp)|intro hyp0|exact tZ|omega
    refine T.loop (fun p:Nat×Nat×List CD=>⟨[(0,.ptr 0 0 0),(3,.ptr 2 0 0),(5,.int .i64 V),(6,.int .i64 V),(11,.int .i64 n),(12,.int .i64 j),(33,.int .i64 K),(34,.int .i64 p.1)],[rdr d p.2.1 0,.seq .cell p.2.2,.box [.int .i64 K,.int .i64 R,.slice 1 0 6 L.length L.length,.int .i64 x,.int .i64 y,.bool hd,.int .u8 mo,.str ti,.vec .str l]]⟩) (fun p=>(p.1≤K∧p.2.1≤d.length∧p.2.2.length=L.length)∧clG d (K-p.1) p.2.1 (V*K+p.1) p.2.2=W2) (fun p=>K-p.1) (0,b+1,M) ⟨⟨Nat.zero_le _,by dsimp only;omega,hM⟩,hW2.symm⟩ (qab [0,1,2] [] rfl (by exact tF)) (fun⟨xx,c,N⟩ ⟨⟨hxx,hcl,hN⟩,hWx⟩=>?_)
    dsimp only at hxx hcl hN hWx ⊢
    by_cases hxK:xx<K
    ·rw[show K-xx=(K-(xx+1))+1 by omega,clG]at hWx
     by_cases h9:d.length<c+9
     ·rw[if_pos h9]at hWx
      subst hWx
      rw[if_pos (by decide)]at hWj
      rw[←hWj,if_pos (by decide)]at hG0
      rw[hG0,jgV _ (by decide)]
      have hK1:(xx:Int)<K:=by omega
      have hbad:=fun a s=>jlP (d:=d) (a:=a) (s:=s) (e:=2) (by decide)
      rcases (show d.length<c+4∨(c+4≤d.length∧d.length<c+6)∨(c+6≤d.length∧d.length<c+8)∨(c+8≤d.length∧d.length<c+9) by omega)with g|⟨g,g'⟩|⟨g,g'⟩|⟨g,g'⟩
      ·have hw:=qaa (je3 (d:=d) (a:=c) (s:=4) g) (qaa hbad (eq_true hK1))
       repeat' first|exact⟨hcl,h2,h3⟩|refine tU ?_|refine qaa ?_ ?_|(refine tI ?_;intro hyp)|intro hyp0|exact tZ|omega
       exact qab [0,1] [] rfl (by exact tF)
      ·have hw:=qaa (jm0 (d:=d) (a:=c) (s:=4) g) (qaa (je3 (d:=d) (a:=c+4) (s:=2) (by omega)) (qaa hbad (eq_true hK1)))
       repeat' first|exact⟨hcl,h2,h3⟩|exact⟨by omega,h2,h3⟩|refine tU ?_|refine qaa ?_ ?_|(refine tI ?_;intro hyp)|intro hyp0|exact tZ|omega
       exact qab [0,1] [] rfl (by exact tF)
      ·have hw:=qaa (jm0 (d:=d) (a:=c) (s:=4) (by omega)) (qaa (jm0 (d:=d) (a:=c+4) (s:=2) (by omega)) (qaa (je3 (d:=d) (a:=c+4+2) (s:=2) (by omega)) (qaa hbad (eq_true hK1))))
       repeat' first|exact⟨hcl,h2,h3⟩|exact⟨by omega,h2,h3⟩|refine tU ?_|refine qaa ?_ ?_|(refine tI ?_;intro hyp)|intro hyp0|exact tZ|omega
       exact qab [0,1] [] rfl (by exact tF)
      ·have hw:=qaa (jm0 (d:=d) (a:=c) (s:=4) (by omega)) (qaa (jm0 (d:=d) (a:=c+4) (s:=2) (by omega)) (qaa (jm0 (d:=d) (a:=c+4+2) (s:=2) (by omega)) (qaa (je3 (d:=d) (a:=c+4+2+2) (s:=1) (by omega)) (qaa hbad (eq_true hK1)))))
       repeat' first|exact⟨hcl,h2,h3⟩|exact⟨by omega,h2,h3⟩|refine tU ?_|refine qaa ?_ ?_|(refine tI ?_;intro hyp)|intro hyp0|exact tZ|omega
       exact qab [0,1] [] rfl (by exact tF)
     ·rw[if_neg h9]at hWx
      have hK1:(xx:Int)<K:=by omega
      obtain⟨q,hq⟩:∃q,q=jhE d c:=⟨_,rfl⟩
      have b2:=jik h3 (c+4) 2
      have b3:=jik h3 (c+4+2) 2
      have b4:=h3 _ (jaX (L:=d) (k:=c+4+2+2) (d:=0) (by omega))
      have q1:IntKind.i32.wrap (numV d c 4)=q.rune:=by rw[hq];rfl
      have q2:IntKind.u32.wrap (numV d (c+4) 2)=q.fg:=by rw[jru (by omega),hq];rfl
      have q3:IntKind.u32.wrap (numV d (c+4+2) 2)=q.bg:=by rw[jru (by omega),hq];rfl
      have q4:IntKind.u8.wrap (d.getD (c+4+2+2) 0)=q.attrs:=by rw[w_u8 (by omega),hq];rfl
      have q5:CD.mk q.rune 0 q.fg q.bg q.attrs 0=q:=by
       rw[hq]
       rfl
      have qr:I32 q.rune:=by rw[←q1];exact jq4 _
      rw[←hq]at hWx
      have hix:((V:Int)*K+xx).toNat=V*K+xx:=by rw[←qad,←qae];rfl
      have hix3:V*K+xx<L.length:=by omega
      have hix2:(0:Int)≤(V:Int)*K+xx∧(V:Int)*K+xx<L.length:=by rw[←qad,←qae];exact⟨Int.natCast_nonneg _,Int.ofNat_lt.2 hix3⟩
      have hix4:(V:Int)*K≤9223372036854775807:=by rw[←qad];exact Int.le_trans (Int.ofNat_le.2 (show V*K≤1920 by omega)) (by decide)
      have hw:=qaa (jm0 (d:=d) (a:=c) (s:=4) (by omega)) (qaa (jm0 (d:=d) (a:=c+4) (s:=2) (by omega)) (qaa (jm0 (d:=d) (a:=c+4+2) (s:=2) (by omega)) (qaa (jfH (d:=d) (a:=c+4+2+2) (by omega)) (eq_true hK1))))
      have hw2:=qaa q1 (qaa q2 (qaa q3 (qaa q4 q5)))
      have hw3:=hix
      by_cases hmq:mayB q=false∨256<q.fg∨256<q.bg
      ·rw[if_pos hmq]at hWx
       subst hWx
       rw[if_pos (by decide)]at hWj
       rw[←hWj,if_pos (by decide)]at hG0
       rw[hG0,jgV _ (by decide)]
       have hw4:((mayB q=false∨256<q.fg)∨256<q.bg)=True:=eq_true (by rcases hmq with z|z|z;exact .inl (.inl z);exact .inl (.inr z);exact .inr z)
       repeat' first|exact⟨hcl,h2,h3⟩|exact⟨by omega,h2,h3⟩|exact qr|with_reducible exact hix4|refine tU ?_|refine qaa ?_ ?_|(refine tI ?_;intro hyp)|intro hyp0|exact tZ|omega
       ·exact qab [0,1] [] rfl (by exact tF)
       ·exfalso
        obtain⟨⟨y1,y2⟩,y3⟩:=hyp
        rcases hmq with z|z|z
        ·rw[y1]at z;cases z
        ·exact y2 z
        ·exact y3 z
      ·rw[if_neg hmq]at hWx
       have z1:mayB q=true:=by simpa using fun z=>hmq (.inl z)
       have z2:¬256<q.fg:=fun z=>hmq (.inr (.inl z))
       have z3:¬256<q.bg:=fun z=>hmq (.inr (.inr z))
       have hw4:=qaa z1 (qaa (eq_false z2) (eq_false z3))
       repeat' first|exact⟨hcl,h2,h3⟩|exact⟨by omega,h2,h3⟩|exact qr|with_reducible exact hix4|refine tU ?_|refine qaa ?_ ?_|(refine tI ?_;intro hyp)|intro hyp0|exact tZ|omega
       refine⟨(xx+1,c+9,N.set (V*K+xx) q),⟨⟨by dsimp only;omega,by dsimp only;omega,by dsimp only;rw[List.length_set];exact hN⟩,hWx⟩,by dsimp only;omega,qab [0,1,2] [] rfl (by simp only[rdr];exact tF)⟩
    ·obtain rfl:xx=K:=by omega
     rw[Nat.sub_self,clG]at hWx
     subst hWx
     rw[if_neg (fun q=>q rfl)]at hWj
     repeat' first|refine tU ?_|refine qaa ?_ ?_|(refine tI ?_;intro hyp)|intro hyp0|exact tZ|omega
     exact⟨(j+1,c,(V:Int),N),⟨⟨by dsimp only;omega,hcl,hN,by dsimp only;omega,by dsimp only;omega⟩,by dsimp only;rw[show n-(j+1)=n-(j+1)from rfl];exact hWj⟩,by dsimp only;omega,qab [0,1,2] [] rfl (by exact tF)⟩
 ·obtain rfl:j=n:=by omega
  rw[Nat.sub_self,rwG]at hWj
  subst hWj
  dsimp only at hG0
  by_cases he:e1=0
  ·rw[if_neg (by rw[he];decide),if_neg (fun q=>q rfl)]at hG0
   by_cases hbl:b<d.length
   ·rw[if_pos hbl]at hG0
    have e4:endE d b e1=6:=by rw[endE,if_pos he,if_pos hbl]
    have hw:=e4
    rw[hG0,jgV _ (by decide)]
    repeat' first|refine tU ?_|refine qaa ?_ ?_|(refine tI ?_;intro hyp)|intro hyp0|exact tZ|omega
    exact qab [0,1] [] rfl (by exact tF)
   ·rw[if_neg hbl]at hG0
    have e4:endE d b 0=0:=by rw[endE,if_pos rfl,if_neg hbl]
    have hw:=qaa e4 he
    rw[hG0,jA5]
    repeat' first|refine tU ?_|refine qaa ?_ ?_|(refine tI ?_;intro hyp)|intro hyp0|exact tZ|omega
    exact qab [0,1] [] rfl (by exact tF)
  ·rw[if_pos he]at hG0
   have e4:endE d b e1=e1:=if_neg he
   have hw:=e4
   rw[hG0,jgV _ he]
   repeat' first|refine tU ?_|refine qaa ?_ ?_|(refine tI ?_;intro hyp)|intro hyp0|exact tZ|omega
   exact qab [0,1] [] rfl (by exact tF))
end
end
end Go.Proofs.YtienkkicehmchaaGreatDoor
