/- Texts of this claim, merged by a program of this claim: KRead, EEval, FRead. -/
import Derived.Test.YtienkkicehmchaaGreatDoorDo17
import Derived.Test.YtienkkicehmchaaGreatDoorDo5
import Derived.Test.YtienkkicehmchaaGreatDoorDo6
import Derived.LoopN
namespace Go.Proofs.YtienkkicehmchaaGreatDoor
open And renaming intro→qaa
open Cos renaming intro→qab
noncomputable section
set_option linter.unusedVariables false
set_option linter.unusedSimpArgs false
section
open Go.RowKit
set_option maxRecDepth 100000
def z94_0:LC:=.seq (.stm [2] [kM 3 0,sd 4 (.app (.int .u8) kn 3),sd 5 (.build [.nils,.int .i64 0,.int .i64 0] [(0,1,4)]),sd 6 (.box 5),kM 2 6]) .ret
def z94:LC:=.seq (.stm [0] [kM 2 (.c .nilptr)]) z94_0
theorem jfZ:jad Tryz.prog eqs0 137 z94 [.t 2] 7=true:=by kernel_rfl
def z95_1:LC:=.seq (.stm [0,4] [kM 3 0,sd 4 (.cmpN 0 false 3)]) (.cond 4 (.seq (.stm [2] [kM 2 (ki 0)]) .ret) .skip)
def z95_4:LC:=.seq (.reg [2] [kR 0 5 (.mov 0),kR 1 6 (.nilck 5),kR 2 7 (.fa 6 0),kR 3 8 (.ld 1 7),kR 4 9 (.len false 8),kR 5 10 (.mov 0),kR 6 11 (.nilck 10),kR 7 12 (.fa 11 1),kR 8 13 (.ld 1 12),kR 9 14 (.sub 9 13),kR 10 2 (.mov 14)]) .ret
def z95_0:LC:=.seq z95_1 z95_4
def z95:LC:=.seq (.stm [0] [kM 2 (ki 0)]) z95_0
theorem jbv:jad Tryz.prog eqs0 147 z95 [.t 2] 15=true:=by kernel_rfl
def z96_7:LC:=.seq (.stm [] [kM 23 0,sd 24 (.nilck 23),kF 25 24 2,sn (.store 1 25 (ki 1))]) (.seq (.stm [4] [sd 4 (.mov (.c (.int .u64 0)))]) .ret)
def z96_11:LC:=.seq (.stm [] [kM 39 0,sd 40 (.nilck 39),kF 41 40 2,sn (.store 1 41 (ki 2))]) (.seq (.stm [4] [sd 4 (.mov (.c (.int .u64 0)))]) .ret)
def z96_9:LC:=.seq (.reg [0,1,26] [kR 0 27 (.mov 0),kR 1 28 (.nilck 27),kR 2 29 (.fa 28 0),kR 3 30 (.ld 1 29),kR 4 31 (.len false 30),kR 5 32 (.mov 0),kR 6 33 (.nilck 32),kR 7 34 (.fa 33 1),kR 8 35 (.ld 1 34),kR 9 36 (.sub 31 35),kR 10 37 (.mov 1),kR 11 38 (.lt 36 37),kR 12 26 (.mov 38)]) (.cond 26 z96_11 .skip)
def z96_5:LC:=.seq (.stm [0,1,16] [kM 17 1,sd 18 (.lt 17 (ki 1)),kM 19 18,.g 19 false [kM 20 1,sd 21 (.cmp .gtr 20 (ki 8))] 22 kt 21,kM 16 22]) (.cond 16 z96_7 z96_9)
def z96_3:LC:=.cond 6 (.seq (.stm [4] [sd 4 (.mov (.c (.int .u64 0)))]) .ret) z96_5
def z96_2:LC:=.seq (.stm [0,1,6] [kM 7 0,sd 8 (.cmpN 0 false 7),kM 9 8,.g 9 false [kM 10 0,sd 11 (.nilck 10),kF 12 11 2,kL 13 1 12,sd 14 (.cmp .neq 13 (ki 0))] 15 kt 14,kM 6 15]) z96_3
def z96_23:LC:=.seq (.reg [0,5,42,43] [kR 0 45 (.mov 5),kR 1 46 (.ari .shl true 45 (.c (.int .u64 8))),kR 2 47 (.mov 0),kR 3 48 (.nilck 47),kR 4 49 (.fa 48 0),kR 5 50 (.ld 1 49),kR 6 51 (.mov 0),kR 7 52 (.nilck 51),kR 8 53 (.fa 52 1),kR 9 54 (.ld 1 53),kR 10 55 (.ixS 1 50 54),kR 11 56 (.ld 1 55),kR 12 57 (.conv .u64 false 56),kR 13 58 (.ari .or false 46 57),kR 14 5 (.mov 58)]) (.stm [0,5,42,43] [kM 59 0,sd 60 (.nilck 59),kF 61 60 1,kL 62 1 61,sd 63 (.add 62 (ki 1)),sd 64 (.nilck 59),kF 65 64 1,sn (.store 1 65 63)])
def z96_21:LC:=.seq (.block 2 z96_23) (.stm [0,5,42,43] [sd 66 (.add 43 (ki 1)),kM 43 66])
def z96_18:LC:=.seq (.stm [0,5,42,43,44] [sd 44 (.lt 43 42)]) (.seq (.cond 44 .skip (.exit 1)) z96_21)
def z96_17:LC:=.loop z96_18
def z96_15:LC:=.seq (.stm [0,5,42,43] [kM 42 1,kM 43 (ki 0)]) (.block 1 z96_17)
def z96_13:LC:=.seq (.stm [0,1,5] [sd 5 (.mov (.c (.int .u64 0)))]) (.seq z96_15 (.seq (.stm [4] [kM 67 5,kM 4 67]) .ret))
def z96_0:LC:=.seq (.block 0 z96_2) z96_13
def z96:LC:=.seq (.stm [0,1] [sd 4 (.mov (.c (.int .u64 0)))]) z96_0
theorem ja2:jad Tryz.prog eqs0 139 z96 [.t 4] 68=true:=by kernel_rfl
def z97_2:LC:=.cond 14 (.seq (.stm [2] [sd 2 (.mov (.c (.int .u64 0)))]) .ret) .skip
def z97_1:LC:=.seq (.stm [0,14] [kM 6 0,sd 7 (.cmpN 0 false 6),kM 8 7,.g 8 false [kM 9 0,sd 10 (.nilck 9),kF 11 10 2,kL 12 1 11,sd 13 (.cmp .neq 12 (ki 0))] 14 kt 13]) z97_2
def z97_13:LC:=.seq (.stm [] [kM 29 0,sd 30 (.nilck 29),kF 31 30 2,sn (.store 1 31 (ki 2))]) (.seq (.stm [2] [sd 2 (.mov (.c (.int .u64 0)))]) .ret)
def z97_11:LC:=.seq (.reg [0,3,4,28] [kR 0 17 (.mov 0),kR 1 18 (.nilck 17),kR 2 19 (.fa 18 1),kR 3 20 (.ld 1 19),kR 4 21 (.mov 4),kR 5 22 (.add 20 21),kR 6 23 (.mov 0),kR 7 24 (.nilck 23),kR 8 25 (.fa 24 0),kR 9 26 (.ld 1 25),kR 10 27 (.len false 26),kR 11 28 (.cmp .geq 22 27)]) (.cond 28 z97_13 .skip)
def z97_19:LC:=.seq (.stm [] [kM 58 0,sd 59 (.nilck 58),kF 60 59 2,sn (.store 1 60 (ki 3))]) (.seq (.stm [2] [sd 2 (.mov (.c (.int .u64 0)))]) .ret)
def z97_17:LC:=.seq (.stm [0,3,4,5,57] [kM 44 4,sd 45 (.eq 44 (ki 9)),kM 46 45,.g 46 true [kM 47 5,sd 48 (.cmp .gtr 47 (k8 1))] 49 48 kf,kM 50 49,.g 50 false [kM 51 4,sd 52 (.cmp .gtr 51 (ki 0)),kM 53 52,.g 53 true [kM 54 5,sd 55 (.eq 54 (k8 0))] 56 55 kf] 57 kt 56]) (.cond 57 z97_19 .skip)
def z97_24:LC:=.seq (.stm [3] [kM 72 0,sd 73 (.nilck 72),kF 74 73 1,kL 75 1 74,kM 76 4,sd 77 (.add 76 (ki 1)),sd 78 (.add 75 77),sd 79 (.nilck 72),kF 80 79 1,sn (.store 1 80 78)]) (.seq (.stm [2] [kM 81 3,kM 2 81]) .ret)
def z97_22:LC:=.seq (.stm [0,3,4,71] [kM 70 5,sd 71 (.lt 70 (k8 128))]) (.cond 71 z97_24 .skip)
def z97_21:LC:=.seq (.stm [0,3,4,5] [kM 61 3,kM 62 5,sd 63 (.ari .and false 62 (k8 127)),sd 64 (.conv .u64 false 63),kM 65 4,sd 66 (.ari .mul false (ki 7) 65),sd 67 (.conv .u64 true 66),sd 68 (.ari .shl true 64 67),sd 69 (.ari .or false 61 68),kM 3 69]) z97_22
def z97_15:LC:=.seq (.reg [0,3,4,5] [kR 0 32 (.mov 0),kR 1 33 (.nilck 32),kR 2 34 (.fa 33 0),kR 3 35 (.ld 1 34),kR 4 36 (.mov 0),kR 5 37 (.nilck 36),kR 6 38 (.fa 37 1),kR 7 39 (.ld 1 38),kR 8 40 (.mov 4),kR 9 41 (.add 39 40),kR 10 42 (.ixS 1 35 41),kR 11 43 (.ld 1 42),kR 12 5 (.mov 43)]) (.seq z97_17 z97_21)
def z97_8:LC:=.seq (.block 1 (.seq z97_11 z97_15)) (.stm [0,3,4] [kM 15 4,sd 16 (.add 15 (ki 1)),kM 4 16])
def z97_7:LC:=.loop z97_8
def z97_4:LC:=.seq (.stm [0,3] [sd 3 (.mov (.c (.int .u64 0)))]) (.seq (.stm [0,3,4] [kM 4 (ki 0)]) (.block 0 z97_7))
def z97_0:LC:=.seq z97_1 z97_4
def z97:LC:=.seq (.stm [0] [sd 2 (.mov (.c (.int .u64 0)))]) z97_0
theorem jaG:jad Tryz.prog eqs0 169 z97 [.t 2] 82=true:=by kernel_rfl
def z98_1:LC:=.seq (.stm [0,4] [kM 3 0,sd 4 (.cmpN 0 false 3)]) (.cond 4 (.seq (.stm [2] [kM 2 (ki 1)]) .ret) .skip)
def z98_4:LC:=.seq (.stm [2] [kM 5 0,sd 6 (.nilck 5),kF 7 6 2,kL 8 1 7,kM 2 8]) .ret
def z98_0:LC:=.seq z98_1 z98_4
def z98:LC:=.seq (.stm [0] [kM 2 (ki 0)]) z98_0
theorem jaP:jad Tryz.prog eqs0 140 z98 [.t 2] 9=true:=by kernel_rfl
def z99_7:LC:=.seq (.stm [] [kM 19 0,sd 20 (.nilck 19),kF 21 20 2,sn (.store 1 21 (ki 1))]) (.seq (.stm [4] [kM 4 kn]) .ret)
def z99_11:LC:=.seq (.stm [] [kM 35 0,sd 36 (.nilck 35),kF 37 36 2,sn (.store 1 37 (ki 2))]) (.seq (.stm [4] [kM 4 kn]) .ret)
def z99_9:LC:=.seq (.reg [0,1,22] [kR 0 23 (.mov 0),kR 1 24 (.nilck 23),kR 2 25 (.fa 24 0),kR 3 26 (.ld 1 25),kR 4 27 (.len false 26),kR 5 28 (.mov 0),kR 6 29 (.nilck 28),kR 7 30 (.fa 29 1),kR 8 31 (.ld 1 30),kR 9 32 (.sub 27 31),kR 10 33 (.mov 1),kR 11 34 (.lt 32 33),kR 12 22 (.mov 34)]) (.cond 22 z99_11 .skip)
def z99_5:LC:=.seq (.stm [0,1,16] [kM 17 1,sd 18 (.lt 17 (ki 0)),kM 16 18]) (.cond 16 z99_7 z99_9)
def z99_2:LC:=.seq (.stm [0,1,6] [kM 7 0,sd 8 (.cmpN 0 false 7),kM 9 8,.g 9 false [kM 10 0,sd 11 (.nilck 10),kF 12 11 2,kL 13 1 12,sd 14 (.cmp .neq 13 (ki 0))] 15 kt 14,kM 6 15]) (.cond 6 (.seq (.stm [4] [kM 4 kn]) .ret) z99_5)
def z99_14:LC:=.seq (.stm [5] [kM 54 0,sd 55 (.nilck 54),kF 56 55 1,kL 57 1 56,kM 58 1,sd 59 (.add 57 58),sd 60 (.nilck 54),kF 61 60 1,sn (.store 1 61 59)]) (.seq (.stm [4] [kM 62 5,kM 4 62]) .ret)
def z99_13:LC:=.seq (.reg [0,1,5] [kR 0 38 (.mov 0),kR 1 39 (.nilck 38),kR 2 40 (.fa 39 0),kR 3 41 (.ld 1 40),kR 4 42 (.mov 0),kR 5 43 (.nilck 42),kR 6 44 (.fa 43 1),kR 7 45 (.ld 1 44),kR 8 46 (.mov 0),kR 9 47 (.nilck 46),kR 10 48 (.fa 47 1),kR 11 49 (.ld 1 48),kR 12 50 (.mov 1),kR 13 51 (.add 49 50),kR 14 52 (.sl false 1 41 (some 45) (some 51) none),⟨15,some 53,none,.app (.int .u8) kn 52,false,true⟩,kR 16 5 (.mov 53)]) z99_14
def z99_0:LC:=.seq (.block 0 z99_2) z99_13
def z99:LC:=.seq (.stm [0,1] [kM 4 kn]) z99_0
theorem jbw:jad Tryz.prog eqs0 141 z99 [.t 4] 63=true:=by kernel_rfl
def z100_1:LC:=.seq (.stm [0,1,8] [kM 7 0,sd 8 (.cmpN 0 false 7)]) (.cond 8 (.seq (.stm [4] [kM 4 kn]) .ret) .skip)
def z100_14:LC:=.seq (.stm [4] [kM 15 0,kM 16 6,sd 17 (.conv .i64 true 16),sd 18 (.call 141 [15,17]),kM 4 18]) .ret
def z100_13:LC:=.cond 37 (.stm [0,5] [kM 51 0,sd 52 (.nilck 51),kF 53 52 2,sn (.store 1 53 (ki 2))]) z100_14
def z100_12:LC:=.seq (.reg [0,5,6,37] [kR 0 38 (.mov 6),kR 1 39 (.mov 0),kR 2 40 (.nilck 39),kR 3 41 (.fa 40 0),kR 4 42 (.ld 1 41),kR 5 43 (.len false 42),kR 6 44 (.mov 0),kR 7 45 (.nilck 44),kR 8 46 (.fa 45 1),kR 9 47 (.ld 1 46),kR 10 48 (.sub 43 47),kR 11 49 (.conv .u64 true 48),kR 12 50 (.cmp .gtr 38 49),kR 13 37 (.mov 50)]) z100_13
def z100_11:LC:=.cond 25 (.stm [0,5] [kM 34 0,sd 35 (.nilck 34),kF 36 35 2,sn (.store 1 36 (ki 4))]) z100_12
def z100_10:LC:=.seq (.stm [0,5,6,25] [kM 26 1,sd 27 (.lt 26 (ki 0)),kM 28 27,.g 28 false [kM 29 6,kM 30 1,sd 31 (.conv .u64 true 30),sd 32 (.cmp .gtr 29 31)] 33 kt 32,kM 25 33]) z100_11
def z100_8:LC:=.seq (.stm [0,1,5,6,19] [kM 20 0,sd 21 (.nilck 20),kF 22 21 2,kL 23 1 22,sd 24 (.cmp .neq 23 (ki 0)),kM 19 24]) (.cond 19 .skip z100_10)
def z100_15:LC:=.seq (.stm [] [kM 54 0,kM 55 5,sd 56 (.nilck 54),kF 57 56 1,sn (.store 1 57 55)]) (.seq (.stm [4] [kM 4 kn]) .ret)
def z100_5:LC:=.seq (.stm [0,1,5,6] [kM 13 0,sd 14 (.call 169 [13]),kM 6 14]) (.seq (.block 0 z100_8) z100_15)
def z100_4:LC:=.seq (.stm [0,1,5] [kM 9 0,sd 10 (.nilck 9),kF 11 10 1,kL 12 1 11,kM 5 12]) z100_5
def z100_0:LC:=.seq z100_1 z100_4
def z100:LC:=.seq (.stm [0,1] [kM 4 kn]) z100_0
theorem jbx:jad Tryz.prog eqs0 172 z100 [.t 4] 58=true:=by kernel_rfl
end
section
open Go.RowKit
noncomputable section
def hget (h:KH):Nat→KB:=List.rec (motive:=fun _=>Nat→KB) (fun _=>.dead) (fun b _ ih i=>Nat.rec (motive:=fun _=>KB) b (fun m _=>ih m) i) h
def hput (h:KH):Nat→KB→KH:=List.rec (motive:=fun _=>Nat→KB→KH) (fun _ _=>[]) (fun b r ih i x=>Nat.rec (motive:=fun _=>KH) (x::r) (fun m _=>b::ih m x) i) h
section
variable {α:Type}
end
def iter (f:St→Option (EX×St)):Nat→St→Option (EX×St)
 | 0,_=>none
 | k+1,s=>match f s with
  | some (.norm,s')=>iter f k s'
  | r=>r
def TR (V:Env) (c:LC) (Q:EX→St→Prop):Nat→St→Prop
 | 0,_=>False
 | n+1,st=>T V c (seqQ (TR V c Q n) Q) st
theorem T.unroll {V:Env}{c:LC}{Q:EX→St→Prop}(n:Nat){st:St}(t:TR V c Q n st):T V (.loop c) Q st:=.mk fun code hk z0 f0 h0 w0 z f a w h1 h2 h3 h4 h5=>by
 cases code<;>simp only[chkC]at hk<;>try (cases hk;done)
 rename_i body
 refine wp_loop_rounds n ?_
 induction n generalizing st z f a w with
 | zero=>exact t.elim
 | succ n ih =>
  rw[rounds_succ]
  refine wp_mono (t.run _ hk z0 f0 h0 w0 z f a w h1 h2 h3 h4 h5) (fun e a w p=>?_)
  cases p with
  | norm hE hi hf q=>exact ih q _ _ _ _ hE hi hf
  | exit id hE hi hf q=>exact .exit id hE hi hf q
  | ret hE hi hf q=>exact .ret hE hi hf q
  | pan hE hv hd hs hf hds q=>exact .pan hE hv hd hs hf hds q
section
variable {P:Program}{E:Nat→Option (List CV)}{eqs:List (TypeId×List IntKind)}
end
end
end
section
open Go.RowKit
set_option maxRecDepth 100000
set_option maxHeartbeats 4000000
abbrev rdr (d:List Int) (a:Nat) (e:Int):KB:=.box [.vec (.int .u8) d,.int .i64 a,.int .i64 e]
abbrev q_wnew (d:List Int):QM:=(([.vec (.int .u8) d],[]),d.length≤1000000,.ret (.ptr 0 0 0),[rdr d 0 0])
def msp_wnew:=mspQ (u1 q_wnew)
theorem jgO:W1 (hM msp_wnew) q_wnew:=w1 (aM rfl)
theorem jpv:Mu 137 msp_wnew:=ofM (u1 q_wnew) fun d hG=>tfi .nil 0 jfZ (by
 dsimp only[u1,q_wnew]at hG ⊢
 have hl:=hG
 repeat' first|refine tU ?_|refine qaa ?_ ?_|(refine tI ?_;intro hyp)|intro hyp0|exact tZ|omega
 exact qab [1] [0] rfl (by exact tF))
abbrev q_wleft (d:List Int) (a:Nat) (e:Int):QM:=(([.ptr 0 0 0],[rdr d a e]),a≤d.length∧d.length≤1000000,.ret (.int .i64 ((d.length:Int)-a)),[rdr d a e])
def msp_wleft:=mspQ (u3 q_wleft)
theorem jfC:W3 (hM msp_wleft) q_wleft:=w3 (aM rfl)
theorem jmT:Mu 147 msp_wleft:=ofM (u3 q_wleft) fun⟨d,a,e⟩ hG=>tfi .nil 1 jbv (by
 dsimp only[u3,q_wleft]at hG ⊢
 obtain⟨h1,h2⟩:=hG
 repeat' first|refine tU ?_|refine qab [0] [] rfl ?_|refine qaa ?_ ?_|(refine tI ?_;intro hyp)|intro hyp0|exact tZ|omega)
abbrev q_werr (d:List Int) (a:Nat) (e:Int):QM:=(([.ptr 0 0 0],[rdr d a e]),True,.ret (.int .i64 e),[rdr d a e])
def msp_werr:=mspQ (u3 q_werr)
theorem jcx:W3 (hM msp_werr) q_werr:=w3 (aM rfl)
theorem jie:Mu 140 msp_werr:=ofM (u3 q_werr) fun⟨d,a,e⟩ hG=>tfi .nil 1 jaP (by
 dsimp only[u3,q_werr]at hG ⊢
 repeat' first|refine tU ?_|refine qab [0] [] rfl ?_|refine qaa ?_ ?_|(refine tI ?_;intro hyp)|intro hyp0|exact tZ|omega)
abbrev q_wnum1 (d:List Int) (a:Nat):QM:=(([.ptr 0 0 0,.int .i64 1],[rdr d a 0]),a<d.length∧d.length≤1000000∧Bts d,.ret (.int .u64 (d.getD a 0)),[rdr d (a+1) 0])
def msp_wnum1:=mspQ (u2 q_wnum1)
theorem jiI:W2 (hM msp_wnum1) q_wnum1:=w2 (aM rfl)
theorem jqG:Mu 139 msp_wnum1:=ofM (u2 q_wnum1) fun⟨d,a⟩ hG=>tfi .nil 1 ja2 (by
 dsimp only[u2,q_wnum1]at hG ⊢
 obtain⟨h1,h2,h3⟩:=hG
 have hb:=h3 _ (jaX (d:=0) h1)
 repeat' first|refine tU ?_|refine qab [0] [] rfl ?_|refine qaa ?_ ?_|(refine tI ?_;intro hyp)|intro hyp0|exact tZ|omega
 refine T.unroll 2 ?_
 simp only[TR]
 have hw:IntKind.u64.wrap 0=0:=rfl
 have hw2:((0 ||| (d.getD a 0).toNat:Nat):Int)=d.getD a 0:=by
  rw[Nat.zero_or]
  omega
 have hbits:(8:Int)≤(IntKind.u64.bits:Int):=Int.ofNat_le.2 (show 8≤64 by omega)
 have hw3:=eq_true hbits
 repeat' first|refine tU ?_|refine qab [0] [] rfl ?_|refine qaa ?_ ?_|(refine tI ?_;intro hyp)|intro hyp0|exact tZ|omega)
theorem jAX {n m:Int}{i:Nat}(h0:0≤n) (h1:n<2 ^ i) (h2:0≤m):((n.toNat ||| (m*2 ^ i).toNat:Nat):Int)=n+m*2 ^ i:=by
 obtain⟨x,rfl⟩:∃x:Nat,n=x:=⟨n.toNat,by omega⟩
 obtain⟨y,rfl⟩:∃y:Nat,m=y:=⟨m.toNat,by omega⟩
 have e:((y:Int)*2 ^ i)=((y*2 ^ i:Nat):Int):=by simp
 rw[e,Int.toNat_natCast,Int.toNat_natCast,Nat.or_comm,←Nat.shiftLeft_eq,←Nat.shiftLeft_add_eq_or_of_lt (by
  have:((x:Int)<((2 ^ i:Nat):Int)):=by simpa using h1
  omega),Nat.shiftLeft_eq]
 omega
theorem jAY {b:Int}(h0:0≤b):((b.toNat &&& 127:Nat):Int)=b % 128:=by
 have:=Nat.and_two_pow_sub_one_eq_mod b.toNat 7
 simp only[show (2:Nat) ^ 7-1=127 from rfl,show (2:Nat) ^ 7=128 from rfl]at this
 rw[this]
 omega
theorem jfD {n:Int}(h0:0≤n) (h1:n<18446744073709551616):IntKind.u64.wrap n=n:=jhd ⟨h0,by omega⟩
abbrev q_wvar (d:List Int) (a:Nat):QM:=(([.ptr 0 0 0],[rdr d a 0]),a≤d.length∧d.length≤1000000∧Bts d,.ret (.int .u64 (varV d a)),[rdr d (a+varU d a) (varE d a)])
def msp_wvar:=mspQ (u2 q_wvar)
theorem jbV:W2 (hM msp_wvar) q_wvar:=w2 (aM rfl)
theorem jgP:Mu 169 msp_wvar:=ofM (u2 q_wvar) fun⟨d,a⟩ hG=>tfi .nil 1 jaG (by
 dsimp only[u2,q_wvar]at hG ⊢
 obtain⟨h1,h2,h3⟩:=hG
 repeat' first|refine tU ?_|refine qaa ?_ ?_|(refine tI ?_;intro hyp)|intro hyp0|exact tZ|omega
 refine T.loop (fun x:Nat×Int=>⟨[(0,.ptr 0 0 0),(3,.int .u64 x.2),(4,.int .i64 x.1)],[rdr d a 0]⟩) (fun x=>x.1≤9∧(0≤x.2∧x.2<2 ^ (7*x.1))∧a+x.1≤d.length∧varG (d.drop (a+x.1)) x.1 x.2=varG (d.drop a) 0 0) (fun x=>10-x.1) (0,0) ⟨by omega,by simp,by omega,rfl⟩ (qab [0] [] rfl (by exact tF)) (fun⟨i,n⟩ ⟨hi,⟨hn0,hn1⟩,hal,hv⟩=>?_)
 dsimp only at hi hn0 hn1 hal hv ⊢
 have hbits:IntKind.u64.bits=64:=rfl
 by_cases hend:a+i<d.length
 ·have hb:=h3 _ (jaX (d:=0) hend)
  have hcons:d.drop (a+i)=d.getD (a+i) 0::d.drop (a+(i+1)):=by
   rw[List.drop_eq_getElem_cons hend,List.getD_eq_getElem?_getD,List.getElem?_eq_getElem hend]
   rfl
  rw[hcons]at hv
  simp only[varG]at hv
  generalize hbd:d.getD (a+i) 0=b at hb hv
  have hM:(¬(i:Int)=9∨¬1<b)→(0≤b % 128*2 ^ (7*i)∧b % 128*2 ^ (7*i)<18446744073709551616)∧n+b % 128*2 ^ (7*i)<18446744073709551616∧n<18446744073709551616:=fun h=>by
   have hi2:i=0∨i=1∨i=2∨i=3∨i=4∨i=5∨i=6∨i=7∨i=8∨i=9:=by omega
   rcases hi2 with rfl|rfl|rfl|rfl|rfl|rfl|rfl|rfl|rfl|rfl<;>simp at hn1 h ⊢<;>omega
  have hw2:=qaa hbd (qaa (show ((a:Int)+i).toNat=a+i by omega) (qaa (jAY hb.1) (qaa (show IntKind.u64.wrap (7*(i:Int))=7*i from jfD (by omega) (by omega)) (show ((7:Int)*(i:Int)).toNat=7*i by omega))))
  by_cases hbad:((i:Int)=9∧1<b)∨(0<(i:Int)∧b=0)
  ·have e:varG (d.drop a) 0 0=(3,0,0):=by rw[←hv,if_pos (by omega)]
   have hw:=qaa (show ((i:Int)=9∧1<b∨0<(i:Int)∧b=0)=True from eq_true hbad) e
   repeat' first|exfalso;omega|refine tU ?_|refine qaa ?_ ?_|(refine tI ?_;intro hyp)|intro hyp0|exact tZ|omega
   exact qab [0] [] rfl (by simp only[varE,varV,varU,e];exact tF)
  ·have hm:=hM (by omega)
   have hw:=jfD hm.1.1 hm.1.2
   have hO:=jAX hn0 hn1 (show 0≤b % 128 by omega)
   have hw3:=hO
   repeat' first|refine tU ?_|refine qaa ?_ ?_|(refine tI ?_;intro hyp)|intro hyp0|exact tZ|omega
   ·have e:varG (d.drop a) 0 0=(0,n+b*2 ^ (7*i),i+1):=by rw[←hv,if_neg (by omega),if_pos hyp]
    rw[show b % 128=b by omega]
    exact qab [0] [] rfl (by simp only[varE,varV,varU,e];exact tF)
   ·rw[if_neg (by omega),if_neg hyp]at hv
    have hq:i≤8:=by omega
    refine⟨(i+1,n+(b-128)*2 ^ (7*i)),⟨by simp only;omega,?_,by simp only;omega,hv⟩,by simp only;omega,qab [0] [] rfl (by rw[show b % 128=b-128 by omega];exact tF)⟩
    have hi2:i=0∨i=1∨i=2∨i=3∨i=4∨i=5∨i=6∨i=7∨i=8:=by omega
    rcases hi2 with rfl|rfl|rfl|rfl|rfl|rfl|rfl|rfl|rfl<;>simp at hn1 ⊢<;>omega
 ·have hnil:d.drop (a+i)=[]:=List.drop_of_length_le (by omega)
  rw[hnil]at hv
  repeat' first|refine tU ?_|refine qaa ?_ ?_|(refine tI ?_;intro hyp)|intro hyp0|exact tZ|omega
  have:varG (d.drop a) 0 0=(2,0,0):=by rw[←hv];rfl
  exact qab [0] [] rfl (by simp only[varE,varV,varU,this];exact tF))
abbrev q_wtake (d:List Int) (a:Nat) (n:Int):QM:=(([.ptr 0 0 0,.int .i64 n],[rdr d a 0]),(0≤n∧a+n≤d.length)∧d.length≤1000000,.ret (.vec (.int .u8) ((d.drop a).take n.toNat)),[rdr d (a+n.toNat) 0])
def msp_wtake:=mspQ (u3 q_wtake)
theorem job:W3 (hM msp_wtake) q_wtake:=w3 (aM rfl)
theorem jxj:Mu 141 msp_wtake:=ofM (u3 q_wtake) fun⟨d,a,n⟩ hG=>tfi .nil 1 jbw (by
 dsimp only[u3,q_wtake]at hG ⊢
 obtain⟨⟨h0,h1⟩,h2⟩:=hG
 obtain⟨m,rfl⟩:∃m:Nat,n=m:=⟨n.toNat,by omega⟩
 simp only[Int.toNat_natCast]
 have hl:((d.drop a).take m).length=m:=by simp;omega
 have hw:=hl
 repeat' first|refine tU ?_|refine qaa ?_ ?_|(refine tI ?_;intro hyp)|intro hyp0|exact tZ|omega
 refine qab [0] [1] rfl ?_
 simp only[PB,SAM,seval,rdB,Hk.out zc]
 simp[hl,crs,crsL,ETy.cast_same,List.take_take])
abbrev q_wtext (d:List Int) (a:Nat) (most:Int):QM:=(([.ptr 0 0 0,.int .i64 most],[rdr d a 0]),a≤d.length∧d.length≤1000000∧Bts d∧(0≤most∧most≤1000000),.ret (.vec (.int .u8) (jdz d a most)),[rdr d (a+jdA d a most) (jcv d a most)])
def msp_wtext:=mspQ (u3 q_wtext)
theorem jfE:W3 (hM msp_wtext) q_wtext:=w3 (aM rfl)
theorem jmU:Mu 172 msp_wtext:=ofM (u3 q_wtext) fun⟨d,a,most⟩ hG=>tfi (.m jaG jgP (.m jbw jxj .nil)) 1 jbx (by
 dsimp only[u3,q_wtext]at hG ⊢
 have zc:=Hk.mk (qaa @jbV @job)
 obtain⟨h1,h2,h3,h4,h5⟩:=hG
 have hu:=jaz h1
 have hv:=jae h3 a
 have hwm:=jfD h4 (show most<18446744073709551616 by omega)
 have hwl:=jfD (show 0≤(d.length:Int)-(a+varU d a:Nat) by omega) (show (d.length:Int)-(a+varU d a:Nat)<18446744073709551616 by omega)
 have hsub:((d.length-(a+varU d a):Nat):Int)=(d.length:Int)-(a+varU d a:Nat):=by omega
 by_cases hE:varE d a=0
 ·have hw:=qaa hE (qaa hwm hwl)
  by_cases hlong:most<varV d a
  ·have e:jcv d a most=4:=by rw[jcv,if_neg (by simp[hE]),if_pos hlong]
   have hx:jdz d a most=[]∧jdA d a most=0:=by simp[jdz,jdA,e]
   repeat' first|exact h3 _ ‹_›|refine tU ?_|refine qaa ?_ ?_|(refine tI ?_;intro hyp)|intro hyp0|exact tZ|omega
   exact qab [0] [] rfl (by rw[hx.1,hx.2,e];exact tF)
  ·by_cases hshort:((d.length-(a+varU d a):Nat):Int)<varV d a
   ·have e:jcv d a most=2:=by rw[jcv,if_neg (by simp[hE]),if_neg hlong,if_pos hshort]
    have hx:jdz d a most=[]∧jdA d a most=0:=by simp[jdz,jdA,e]
    repeat' first|exact h3 _ ‹_›|refine tU ?_|refine qaa ?_ ?_|(refine tI ?_;intro hyp)|intro hyp0|exact tZ|omega
    exact qab [0] [] rfl (by rw[hx.1,hx.2,e];exact tF)
   ·have e:jcv d a most=0:=by rw[jcv,if_neg (by simp[hE]),if_neg hlong,if_neg hshort]
    have hx:jdz d a most=(d.drop (a+varU d a)).take (varV d a).toNat∧jdA d a most=varU d a+(varV d a).toNat:=by simp[jdz,jdA,e]
    have hw2:=jf7 (show -9223372036854775808≤varV d a∧varV d a≤9223372036854775807 by omega)
    repeat' first|exact h3 _ ‹_›|refine tU ?_|refine qaa ?_ ?_|(refine tI ?_;intro hyp)|intro hyp0|exact tZ|omega
    exact qab [0] [] rfl (by rw[hx.1,hx.2,e];exact tF)
 ·have e:jcv d a most=varE d a:=by rw[jcv,if_pos hE]
  have hx:jdz d a most=[]∧jdA d a most=0:=by simp[jdz,jdA,e,hE]
  repeat' first|exact h3 _ ‹_›|refine tU ?_|refine qaa ?_ ?_|(refine tI ?_;intro hyp)|intro hyp0|exact tZ|omega
  exact qab [0] [] rfl (by rw[hx.1,hx.2,e];exact tF))
end
end
end Go.Proofs.YtienkkicehmchaaGreatDoor
