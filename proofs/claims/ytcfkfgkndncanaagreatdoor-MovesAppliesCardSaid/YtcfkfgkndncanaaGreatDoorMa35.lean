/- Texts of this claim, merged by a program of this claim: KLawR, FLawR. -/
import Derived.Test.YtcfkfgkndncanaaGreatDoorMa34
import Derived.Test.YtcfkfgkndncanaaGreatDoorMa5
namespace Go.Proofs.YtcfkfgkndncanaaGreatDoor
set_option linter.unusedVariables false
set_option linter.unusedSimpArgs false
section
open Go.RowKit
set_option maxRecDepth 100000
def z109_3:LC:=.seq (.stm [4] [sd 20 (.call 8 []),kM 4 20]) .ret
def z109_2:LC:=.cond 19 z109_3 .skip
def z109_1:LC:=.seq (.stm [1,2,19] [sd 13 (.load true 9 2),sd 14 (.call 7 [13]),kM 15 14,.g 15 false [kM 16 1,sd 17 (.len false 16),sd 18 (.cmp .gtr 17 (ki 65536))] 19 kt 18]) z109_2
def z109_10:LC:=.seq (.stm [4] [kM 4 kf]) .ret
def z109_9:LC:=.cond 49 z109_10 .skip
def z109_8:LC:=.seq (.stm [1,2,5,6,7,49] [sd 37 (.call 8 []),sd 38 (.un .not 37),kM 39 38,.g 39 false [kM 40 8,kM 41 10,sd 42 (.cmp .neq 40 41)] 43 kt 42,kM 44 43,.g 44 false [sd 45 (.load true 9 7),sd 46 (.load true 9 9),sd 47 (.call 13 [45,46]),sd 48 (.un .not 47)] 49 kt 48]) z109_9
def z109_17:LC:=.cond 54 .skip (.exit 0)
def z109_20:LC:=.seq (.stm [1,2,5,6,7,11,52,53] [kM 55 53,kM 11 55]) (.stm [1,2,5,6,7,52,53] [kF 56 7 2,kL 57 1 56,kM 58 11,sd 59 (.ixS 6 57 58),kF 60 59 0,kL 61 1 60,sd 62 (.ari .add true 61 (.c (.int .i32 1))),sd 63 (.ixS 6 57 58),kF 64 63 0,sn (.store 1 64 62)])
def z109_19:LC:=.block 1 z109_20
def z109_18:LC:=.seq z109_19 (.stm [1,2,5,6,7,52,53] [sd 65 (.add 53 (ki 1)),kM 53 65])
def z109_16:LC:=.seq z109_17 z109_18
def z109_15:LC:=.seq (.stm [1,2,5,6,7,52,53,54] [sd 54 (.lt 53 52)]) z109_16
def z109_14:LC:=.loop z109_15
def z109_13:LC:=.block 0 z109_14
def z109_12:LC:=.seq (.stm [1,2,5,6,7,52,53] [kF 50 7 2,kL 51 1 50,sd 52 (.len false 51),kM 53 (ki 0)]) z109_13
def z109_27:LC:=.cond 70 .skip (.exit 2)
def z109_30:LC:=.seq (.stm [1,2,5,6,7,12,68,69] [kM 71 69,kM 12 71]) (.reg [1,2,5,6,7,68,69] [kR 0 72 (.fa 7 8),kR 1 73 (.ld 1 72),kR 2 74 (.mov 12),kR 3 75 (.fa 7 8),kR 4 76 (.ld 1 75),kR 5 77 (.mov 12),kR 6 78 (.ixS 1 76 77),kR 7 79 (.ld 1 78),kR 8 80 (.cat 79 (.c (.str (bs [120])))),kR 9 81 (.ixS 1 73 74),⟨10,none,none,.store 1 81 80,false,true⟩])
def z109_29:LC:=.block 3 z109_30
def z109_28:LC:=.seq z109_29 (.stm [1,2,5,6,7,68,69] [sd 82 (.add 69 (ki 1)),kM 69 82])
def z109_26:LC:=.seq z109_27 z109_28
def z109_25:LC:=.seq (.stm [1,2,5,6,7,68,69,70] [sd 70 (.lt 69 68)]) z109_26
def z109_24:LC:=.loop z109_25
def z109_23:LC:=.block 2 z109_24
def z109_22:LC:=.seq (.stm [1,2,5,6,7,68,69] [kF 66 7 8,kL 67 1 66,sd 68 (.len false 67),kM 69 (ki 0)]) z109_23
def z109_31:LC:=.seq (.stm [4] [sd 83 (.load true 9 5),sd 84 (.load true 9 2),sd 85 (.call 13 [83,84]),kM 86 85,.g 86 true [kM 87 6,kM 88 1,sd 89 (.call 14 [87,88])] 90 89 kf,kM 4 90]) .ret
def z109_21:LC:=.seq z109_22 z109_31
def z109_11:LC:=.seq z109_12 z109_21
def z109_7:LC:=.seq z109_8 z109_11
def z109_6:LC:=.seq (.stm [1,2,5,6,7,8,9,10] [sd 32 (.load true 9 2),kM 33 1,sd 34 (.call 12 [32,33]),kM 31 34,sd 35 (.ext 31 0),sd 36 (.ext 31 1),sd 9 (.zero [.int .i64 0,.int .i64 0,.nils,.int .i64 0,.int .i64 0,.bool false,.int .u8 0,.str (bs []),.nils]),sn (.store 9 9 35),kM 10 36]) z109_7
def z109_5:LC:=.seq (.stm [1,2,5,6,7,8] [sd 26 (.load true 9 5),kM 27 6,sd 28 (.call 11 [26,27]),kM 25 28,sd 29 (.ext 25 0),sd 30 (.ext 25 1),sd 7 (.zero [.int .i64 0,.int .i64 0,.nils,.int .i64 0,.int .i64 0,.bool false,.int .u8 0,.str (bs []),.nils]),sn (.store 9 7 29),kM 8 30]) z109_6
def z109_4:LC:=.seq (.stm [1,2,5,6] [sd 21 (.load true 9 2),sd 22 (.call 9 [21]),kM 23 1,sd 24 (.call 10 [23]),sd 5 (.zero [.int .i64 0,.int .i64 0,.nils,.int .i64 0,.int .i64 0,.bool false,.int .u8 0,.str (bs []),.nils]),sn (.store 9 5 22),kM 6 24]) z109_5
def z109_0:LC:=.seq z109_1 z109_4
def z109:LC:=.seq (.stm [1,2] [sd 2 (.box 0),kM 4 kf]) z109_0
theorem jid:jaQ Tryz.prog eqs0 3 z109 [.t 4] 91=true:=by kernel_rfl
end
section
open Go.RowKit
set_option maxRecDepth 100000
set_option maxHeartbeats 4000000
theorem jsJ {d:List Int}:∀(f:Nat) (last:Int) (s:RS),0≤last→Kept d last s→(goG d f last s).1=0→∃last',Kept d last' (goG d f last s).2
 | 0,last,s,_,h,_=>⟨last,h⟩
 | f+1,last,s,h0,h,e=>by
  by_cases q1:d.length≤s.a
  ·simp only[goG,if_pos q1]at e ⊢
   exact⟨last,h⟩
  ·by_cases q2:d.getD s.a 0≤last∨8<d.getD s.a 0
   ·simp only[goG,if_neg q1,if_pos q2]at e
    cases e
   ·by_cases q3:(thG d (d.getD s.a 0) { s with a:=s.a+1 }).1=0
    ·simp only[goG,if_neg q1,if_neg q2,q3,ne_eq,not_true_eq_false,if_false]at e ⊢
     exact jsJ f _ _ (by omega) (jwI (h.next (by omega)) (by omega) (by omega) q3) e
    ·simp only[goG,if_neg q1,if_neg q2,ne_eq,q3,not_false_eq_true,if_true]at e
theorem jwJ {d:List Int}{s:RS}(hd:d.length≤1000000) (hb:Bts d) (hs:ScrOk s.L s.l) (ht:SLen s.ti) (e:(apG d s).1=0) :
  jb5 (apG d s).2.k (apG d s).2.r (apG d s).2.L (apG d s).2.x (apG d s).2.y (apG d s).2.mo (apG d s).2.ti (apG d s).2.more=true∧ScrOk (apG d s).2.L (apG d s).2.more∧SLen (apG d s).2.ti:=by
 by_cases h1:jb5 s.k s.r s.L s.x s.y s.mo s.ti s.l=false
 ·simp only[apG,if_pos h1]at e
  cases e
 ·have h1t:jb5 s.k s.r s.L s.x s.y s.mo s.ti s.l=true:=by simpa using h1
  obtain⟨hz,h16,hlk⟩:=ji5 h1t
  by_cases h2:(goG d 9 0 { s with more:=s.l,a:=0 }).1=0
  ·obtain⟨last,hk⟩:=jsJ (d:=d) 9 0 { s with more:=s.l,a:=0 } (Int.le_refl _) ⟨⟨Nat.zero_le _,hd,hb⟩,hz,h16,h16,hs.wf,fun _=>hlk,fun _=>jgk h1t,hs.slen,ht,hs.slen⟩ h2
   obtain⟨b,hb2⟩:∃b,goG d 9 0 { s with more:=s.l,a:=0 }=(0,b):=⟨_,Prod.ext h2 rfl⟩
   rw[hb2]at hk
   by_cases h3:jb5 b.k b.r b.L b.x b.y b.mo b.ti b.more=false
   ·rw[jom h1t hb2 h3]at e
    cases e
   ·have h3t:jb5 b.k b.r b.L b.x b.y b.mo b.ti b.more=true:=by simpa using h3
    rw[jsI h1t hb2 h3t]
    exact⟨h3t,⟨hk.wf,by have:=hk.sz.le;dsimp only at this ⊢;omega,by have:=hk.nm;dsimp only at this ⊢;omega,hk.sl⟩,hk.st⟩
  ·rw[jgl h1t rfl h2]at e
   exact absurd e h2
theorem jyo {d:List Int}{s:RS}(e:¬(apG d s).1=0):(apG d s).2=zeroR:=by
 unfold apG at e ⊢
 split
 ·rfl
 ·rename_i q1
  rw[if_neg q1]at e
  split
  ·rfl
  ·rename_i q2
   rw[if_neg q2]at e
   split
   ·rfl
   ·rename_i q3
    rw[if_neg q3]at e
    exact absurd rfl e
abbrev jsK:List CV:=[]
abbrev f_fixedE:Prop×Res:=(True,.ret (.bool true))
noncomputable def sp_fixedE:Spec:=spOf (α:=Unit) (fun _=>jsK) fun _=>f_fixedE
theorem jb1:sp_fixedE jsK=some f_fixedE:=jaq _ (fun _ _ _=>rfl) ()
theorem jwK:Alias Tryz.prog E0 8 sp_fixedE:=Alias.of fun _ hG=>(by
 dsimp only at hG ⊢
 exact jtG)
theorem jwL:Fresh Tryz.prog E0 8 sp_fixedE:=Alias.fresh jwK (fun x=>rfl)
end
end Go.Proofs.YtcfkfgkndncanaaGreatDoor
