/- Texts of this claim, merged by a program of this claim: KeepR, KRuns, FRn1. -/
import Derived.Test.YtienkkicehmchaaGreatDoorDo21
import Derived.Test.YtienkkicehmchaaGreatDoorDo23
import Derived.Test.YtienkkicehmchaaGreatDoorDo26
import Derived.Test.YtienkkicehmchaaGreatDoorDo5
import Derived.Test.YtienkkicehmchaaGreatDoorDo6
namespace Go.Proofs.YtienkkicehmchaaGreatDoor
open And renaming intro→qaa
open Nat renaming zero_le→qab
open Cos renaming intro→qac,err→qad
noncomputable section
set_option linter.unusedVariables false
set_option linter.unusedSimpArgs false
section
theorem jq5 {d:List Int}{p:PD}:∀(n a pos:Nat) (L:List CD),a≤d.length→(le3G d p n a pos L).2.1≤d.length∧((le3G d p n a pos L).1=0→(le3G d p n a pos L).2.2.length=L.length)
 | 0,a,pos,L,h=>⟨h,fun _=>rfl⟩
 | n+1,a,pos,L,h=>by
  simp only[le3G]
  split
  ·rename_i q
   exact⟨qab _,fun e=>absurd e q⟩
  ·split
   ·exact⟨qab _,fun e=>by cases e⟩
   ·have:=jq5 (d:=d) (p:=p) n (a+varU d a) (pos+1) (L.set pos ⟨varV d a,0,p.fg,p.bg,p.attrs,0⟩) (jaz h)
    rw[List.length_set]at this
    exact this
theorem jz7 {d:List Int}{a pos all:Nat}(h:a≤d.length):(hd3G d a pos all).a≤d.length:=by
 unfold hd3G
 split
 ·exact qab _
 ·have h1:=jaz h
  simp only
  split
  ·exact qab _
  ·have h2:=jaz h1
   split
   ·exact qab _
   ·split
    ·exact qab _
    ·have h3:=jaz h2
     split
     ·exact qab _
     ·have h4:=jaz h3
      split
      ·exact qab _
      ·exact jaz h4
theorem jq6 {d:List Int}:∀(n a pos:Nat) (L:List CD),a≤d.length→(rn3G d n a pos L).2.1≤d.length∧((rn3G d n a pos L).1=0→(rn3G d n a pos L).2.2.length=L.length)
 | 0,a,pos,L,h=>⟨h,fun _=>rfl⟩
 | n+1,a,pos,L,h=>by
  simp only[rn3G]
  split
  ·rename_i q
   exact⟨qab _,fun e=>absurd e q⟩
  ·split
   ·rename_i q
    exact⟨qab _,fun e=>absurd e q⟩
   ·rename_i q
    simp only[ne_eq,Classical.not_not]at q
    have h1:=jq5 (d:=d) (p:=(hd3G d a pos L.length).p) (hd3G d a pos L.length).n (hd3G d a pos L.length).a (hd3G d a pos L.length).pos L (jz7 h)
    have h2:=jq6 (d:=d) n _ ((hd3G d a pos L.length).pos+(hd3G d a pos L.length).n) (le3G d (hd3G d a pos L.length).p (hd3G d a pos L.length).n (hd3G d a pos L.length).a (hd3G d a pos L.length).pos L).2.2 h1.1
    exact⟨h2.1,fun e=>(h2.2 e).trans (h1.2 q)⟩
theorem jvp {d:List Int}{a:Nat}{L:List CD}(ha:a≤d.length):(rs3G d a L).2.1≤d.length∧((rs3G d a L).1=0→(rs3G d a L).2.2.length=L.length):=by
 unfold rs3G
 split
 ·rename_i q
  exact⟨qab _,fun h=>absurd h q⟩
 ·exact jq6 _ _ _ _ (jaz ha)
def jz8 (p:PD):Prop:=(0≤p.fg∧p.fg<4294967296)∧(0≤p.bg∧p.bg<4294967296)∧(0≤p.attrs∧p.attrs<256)
theorem jA6 {x y z w:Int}(h1:0≤x) (h2:x<4294967296) (h3:0≤y) (h4:y<4294967296) (h5:0≤z) (h6:z≤255):jz8 ⟨x,y,z,w⟩:=⟨⟨h1,h2⟩,⟨h3,h4⟩,h5,Int.lt_of_le_of_lt h6 (by decide)⟩
theorem jlQ {d:List Int}{a:Nat}(h:colE d a=0):varV d a<4294967296:=by
 rcases jf0 d a with q|q|q
 ·have:=jaQ q.1
  omega
 ·rw[q.2.2]at h
  cases h
 ·exact absurd (q.2.symm.trans h) q.1
theorem jss (e:Int):(jbq e).e=e:=rfl
theorem jxF {d:List Int}(hb:Bts d){a pos all:Nat}(h:(hd3G d a pos all).e=0):jz8 (hd3G d a pos all).p:=by
 unfold hd3G at h ⊢
 split at h
 ·rename_i q
  exact absurd ((jss _).symm.trans h) q
 rename_i q
 rw[if_neg q]
 dsimp only at h ⊢
 split at h
 ·rename_i q
  exact absurd ((jss _).symm.trans h) q
 rename_i q
 rw[if_neg q]
 split at h
 ·cases (jss _).symm.trans h
 rename_i q
 rw[if_neg q]
 split at h
 ·rename_i q
  exact absurd ((jss _).symm.trans h) q
 rename_i q1
 rw[if_neg q1]
 split at h
 ·rename_i q
  exact absurd ((jss _).symm.trans h) q
 rename_i q2
 rw[if_neg q2]
 split at h
 ·rename_i q
  exact absurd ((jss _).symm.trans h) q
 rename_i q3
 rw[if_neg q3]
 have u1:=jlQ (Classical.not_not.mp q1)
 have u2:=jlQ (Classical.not_not.mp q2)
 have u3:=jaQ (Classical.not_not.mp q3)
 exact jA6 (jae hb _).1 u1 (jae hb _).1 u2 (jae hb _).1 u3.2.2
theorem jvq {d:List Int}(hb:Bts d){p:PD}(hp:jz8 p):∀(n a pos:Nat) (L:List CD),(∀c∈L,CWf c)→∀c∈(le3G d p n a pos L).2.2,CWf c
 | 0,a,pos,L,h=>h
 | n+1,a,pos,L,h=>by
  simp only[le3G]
  split
  ·intro c hc
   cases hc
  rename_i q
  split
  ·intro c hc
   cases hc
  refine jvq hb hp n _ _ _ (fun c hc=>?_)
  rcases List.mem_or_eq_of_mem_set hc with z|z
  ·exact h c z
  ·subst z
   have u:=jaQ (Classical.not_not.mp q)
   have v:=jae hb a
   exact⟨by dsimp only;omega,by dsimp only;omega,hp.1,hp.2.1,hp.2.2,by dsimp only;omega⟩
theorem jvr {d:List Int}(hb:Bts d):∀(n a pos:Nat) (L:List CD),(∀c∈L,CWf c)→∀c∈(rn3G d n a pos L).2.2,CWf c
 | 0,a,pos,L,h=>h
 | n+1,a,pos,L,h=>by
  simp only[rn3G]
  split
  ·intro c hc
   cases hc
  rename_i q
  split
  ·intro c hc
   cases hc
  exact jvr hb n _ _ _ (jvq hb (jxF hb (Classical.not_not.mp q)) _ _ _ _ h)
theorem jA7 {d:List Int}(hb:Bts d){a:Nat}{L:List CD}(h:∀c∈L,CWf c):∀c∈(rs3G d a L).2.2,CWf c:=by
 unfold rs3G
 split
 ·intro c hc
  cases hc
 ·exact jvr hb _ _ _ _ h
structure KeptR (d:List Int) (s:RS):Prop where
 rd:RdOk d s.a
 sz:Szd s.k s.r s.L
 wf:∀c∈s.L,CWf c
 ln:s.l.length≤16
 sl:∀t∈s.l,SLen t
 st:SLen s.ti
theorem Kept.weak {d:List Int}{last:Int}{s:RS}(h:Kept d last s):KeptR d s:=⟨h.rd,h.sz,h.wf,h.nl,h.ls,h.st⟩
theorem jBU {d:List Int}{last kd:Int}{s:RS}(h:Kept d last s) (hl:last<kd) (hk:1≤kd∧kd≤5) (e:(thR d kd s).1=0):KeptR d (thR d kd s).2∧(kd<5→Kept d kd (thR d kd s).2):=by
 unfold thR at e ⊢
 by_cases h5:kd=5
 ·rw[if_pos h5]at e ⊢
  refine⟨?_,fun q=>by omega⟩
  unfold th5R at e ⊢
  split at e
  ·rename_i q
   exact absurd e q
  rename_i q
  rw[if_neg q]
  have f:=jvp (d:=d) (a:=s.a) (L:=s.L) h.rd.1
  refine⟨⟨f.1,h.rd.2⟩,⟨h.sz.1,h.sz.2.1,(f.2 (Classical.not_not.mp q)).trans h.sz.2.2⟩,jA7 h.rd.2.2 h.wf,h.nl,h.ls,h.st⟩
 ·rw[if_neg h5]at e ⊢
  have g:=jA0 h hl (by omega) e
  exact⟨g.weak,fun _=>g⟩
theorem jz9 {d:List Int}{kd:Int}{s:RS}(h:s.more=[]) (hk:1≤kd∧kd≤5):(thR d kd s).2.more=[]:=by
 unfold thR
 obtain rfl|rfl|rfl|rfl|rfl:kd=1∨kd=2∨kd=3∨kd=4∨kd=5:=by omega
 all_goals simp only[thG,th1,th2,th3,th4,th5R,reduceIte,Int.reduceEq]
 all_goals (repeat' split)
 all_goals first|rfl|exact h
theorem jvs {d:List Int}{s b:RS}{e:Int}(h1:jaB s.k s.r s.L s.x s.y s.mo s.ti s.l=true) (h:goR d 6 0 { s with a:=0 }=(e,b)) (he:e≠0):ap2G d s=(e,jc3):=by
 unfold ap2G
 rw[if_neg (by rw[h1];decide),h,if_pos he]
theorem jAa {d:List Int}{s b:RS}(h1:jaB s.k s.r s.L s.x s.y s.mo s.ti s.l=true) (h:goR d 6 0 { s with a:=0 }=(0,b)) (h2:jaB b.k b.r b.L b.x b.y b.mo b.ti b.l=false):ap2G d s=(3,jc3):=by
 unfold ap2G
 rw[if_neg (by rw[h1];decide),h,if_neg (fun q=>q rfl),if_pos h2]
theorem jA8 {d:List Int}{s b:RS}(h1:jaB s.k s.r s.L s.x s.y s.mo s.ti s.l=true) (h:goR d 6 0 { s with a:=0 }=(0,b)) (h2:jaB b.k b.r b.L b.x b.y b.mo b.ti b.l=true):ap2G d s=(0,b):=by
 unfold ap2G
 rw[if_neg (by rw[h1];decide),h,if_neg (fun q=>q rfl),if_neg (by rw[h2];decide)]
end
section
open Go.RowKit
set_option maxRecDepth 100000
def z118_1:LC:=.cond 9 (.stm [] [kM 10 2,sd 11 (.mkif 29 10),sn (.panic 11)]) .skip
def z118_0:LC:=.seq (.stm [2,9] [kM 8 2,sd 9 (.cmp .neq 8 (ki 0))]) z118_1
def z118:LC:=.seq (.stm [2] [kM 3 0,sd 4 (.nilck 3),kF 5 4 0,kL 6 1 5,sd 7 (.call 140 [6]),kM 2 7]) z118_0
theorem jbj:jad Tryz.prog eqs0 170 z118 [] 12=true:=by kernel_rfl
def z119_4:LC:=.cond 20 (.stm [5] [sd 21 (.mkif 29 (ki 3)),sn (.panic 21)]) .skip
def z119_3:LC:=.seq (.stm [5,20] [kM 13 1,sd 14 (.lt 13 (ki 0)),kM 15 14,.g 15 false [kM 16 5,kM 17 1,sd 18 (.conv .u64 true 17),sd 19 (.cmp .gtr 16 18)] 20 kt 19]) z119_4
def z119_5:LC:=.seq (.stm [4] [kM 22 5,sd 23 (.conv .i64 true 22),kM 4 23]) .ret
def z119_1:LC:=.seq (.stm [1,5] [kM 11 0,sd 12 (.call 170 [11])]) (.seq z119_3 z119_5)
def z119_0:LC:=.seq (.stm [0,1,5] [kM 6 0,sd 7 (.nilck 6),kF 8 7 0,kL 9 1 8,sd 10 (.call 169 [9]),kM 5 10]) z119_1
def z119:LC:=.seq (.stm [0,1] [kM 4 (ki 0)]) z119_0
theorem jbk:jad Tryz.prog eqs0 171 z119 [.t 4] 24=true:=by kernel_rfl
def z120_3:LC:=.cond 9 (.stm [3] [sd 10 (.mkif 29 (ki 3)),sn (.panic 10)]) .skip
def z120_2:LC:=.seq (.stm [3,9] [kM 7 3,sd 8 (.call 158 [7]),sd 9 (.un .not 8)]) z120_3
def z120_0:LC:=.seq (.stm [3] [kM 4 0,sd 5 (.call 171 [4,(ki 4294967295)]),sd 6 (.conv .u32 true 5),kM 3 6]) (.seq z120_2 (.seq (.stm [2] [kM 11 3,kM 2 11]) .ret))
def z120:LC:=.seq (.stm [0] [sd 2 (.mov (.c (.int .u32 0)))]) z120_0
theorem jcS:jad Tryz.prog eqs0 194 z120 [.t 2] 12=true:=by kernel_rfl
def z121_3:LC:=.cond 15 (.stm [0,2] [sd 16 (.mkif 29 (ki 3)),sn (.panic 16)]) .skip
def z121_2:LC:=.seq (.stm [0,2,15] [kM 14 2,sd 15 (.eq 14 (.c (.int .u64 0)))]) z121_3
def z121_8:LC:=.seq (.stm [0,2,3,18] [kM 17 2,sd 18 (.cmp .gtr 17 (.c (.int .u64 0)))]) (.cond 18 .skip (.exit 0))
def z121_16:LC:=.cond 44 (.stm [0,2,3,4] [sd 45 (.mkif 29 (ki 3)),sn (.panic 45)]) .skip
def z121_15:LC:=.seq (.stm [0,2,3,4,44] [kM 43 4,sd 44 (.eq 43 (ki 0))]) z121_16
def z121_29:LC:=.cond 64 (.stm [0,2,3,5,6,54,55] [sd 65 (.mkif 29 (ki 3)),sn (.panic 65)]) .skip
def z121_28:LC:=.seq (.stm [0,2,3,5,6,54,55,64] [sd 62 (.load true 6 6),sd 63 (.call 156 [62]),sd 64 (.un .not 63)]) z121_29
def z121_30:LC:=.seq (.reg [0,2,3,5,54,55] [kR 0 66 (.mov 0),kR 1 67 (.nilck 66),kR 2 68 (.fa 67 1),kR 3 69 (.fa 68 2),kR 4 70 (.ld 1 69),kR 5 71 (.mov 3),kR 6 72 (.load true 6 6),kR 7 73 (.ixS 6 70 71),⟨8,none,none,.store 6 73 72,false,true⟩]) (.stm [0,2,3,5,54,55] [kM 74 3,sd 75 (.add 74 (ki 1)),kM 3 75])
def z121_26:LC:=.seq (.reg [0,2,3,5,6,54,55] [kR 0 57 (.mov 0),kR 3 60 (.load true 4 5),⟨1,some 58,none,.call 171 [57,(ki 1114111)],true,true⟩,kR 2 59 (.conv .i32 true 58),kR 4 61 (.build [.int .i32 0,.int .u8 0,.int .u32 0,.int .u32 0,.int .u8 0,.int .u16 0] [(0,1,59),(2,4,60)]),kR 5 6 (.zero [.int .i32 0,.int .u8 0,.int .u32 0,.int .u32 0,.int .u8 0,.int .u16 0]),⟨6,none,none,.store 6 6 61,false,true⟩]) (.seq z121_28 z121_30)
def z121_24:LC:=.seq (.block 3 z121_26) (.stm [0,2,3,5,54,55] [sd 76 (.add 55 (ki 1)),kM 55 76])
def z121_21:LC:=.seq (.stm [0,2,3,5,54,55,56] [sd 56 (.lt 55 54)]) (.seq (.cond 56 .skip (.exit 2)) z121_24)
def z121_20:LC:=.loop z121_21
def z121_18:LC:=.seq (.stm [0,2,3,5,54,55] [kM 54 4,kM 55 (ki 0)]) (.block 2 z121_20)
def z121_17:LC:=.seq (.stm [0,2,3,4,5] [kM 46 0,sd 47 (.call 194 [46]),kM 48 0,sd 49 (.call 194 [48]),kM 50 0,sd 51 (.call 171 [50,(ki 255)]),sd 52 (.conv .u8 true 51),sd 53 (.build [.int .u32 0,.int .u32 0,.int .u8 0,.int .u16 0] [(0,1,47),(1,1,49),(2,1,52)]),sd 5 (.zero [.int .u32 0,.int .u32 0,.int .u8 0,.int .u16 0]),sn (.store 4 5 53)]) z121_18
def z121_13:LC:=.seq (.stm [0,2,3,4] [kM 33 0,kM 34 0,sd 35 (.nilck 34),kF 36 35 1,kF 37 36 2,kL 38 1 37,sd 39 (.len false 38),kM 40 3,sd 41 (.sub 39 40),sd 42 (.call 171 [33,41]),kM 4 42]) (.seq z121_15 z121_17)
def z121_12:LC:=.seq (.stm [0,2,3] [kM 21 3,kM 22 0,kM 23 0,sd 24 (.nilck 23),kF 25 24 1,kF 26 25 2,kL 27 1 26,sd 28 (.len false 27),kM 29 3,sd 30 (.sub 28 29),sd 31 (.call 171 [22,30]),sd 32 (.add 21 31),kM 3 32]) z121_13
def z121_10:LC:=.seq (.block 1 z121_12) (.stm [0,2,3] [kM 19 2,sd 20 (.ari .sub true 19 (.c (.int .u64 1))),kM 2 20])
def z121_6:LC:=.loop (.seq z121_8 z121_10)
def z121_1:LC:=.seq z121_2 (.seq (.stm [0,2,3] [kM 3 (ki 0)]) (.block 0 z121_6))
def z121_0:LC:=.seq (.stm [0,2] [kM 12 0,sd 13 (.call 170 [12])]) z121_1
def z121:LC:=.seq (.stm [0,2] [kM 7 0,sd 8 (.nilck 7),kF 9 8 0,kL 10 1 9,sd 11 (.call 169 [10]),kM 2 11]) z121_0
theorem jdp:jad Tryz.prog eqs0 173 z121 [] 77=true:=by kernel_rfl
def z122_9:LC:=.cond 35 (.stm [0,4,5] [sd 36 (.mkif 29 (ki 3)),sn (.panic 36)]) .skip
def z122_8:LC:=.seq (.stm [0,4,5,35] [kM 24 4,sd 25 (.cmp .gtr 24 (.c (.int .u64 80))),kM 26 25,.g 26 false [kM 27 5,sd 28 (.cmp .gtr 27 (.c (.int .u64 24)))] 29 kt 28,kM 30 29,.g 30 false [kM 31 4,kM 32 5,sd 33 (.ari .mul true 31 32),sd 34 (.eq 33 (.c (.int .u64 0)))] 35 kt 34]) z122_9
def z122_7:LC:=.seq z122_8 (.stm [] [kM 38 0,kM 39 4,sd 40 (.conv .i64 true 39),kM 41 5,sd 42 (.conv .i64 true 41),sd 43 (.call 136 [40,42]),kM 37 43,sd 44 (.ext 37 0),sd 45 (.ext 37 1),sd 46 (.nilck 38),kF 47 46 1,sn (.store 9 47 44)])
def z122_5:LC:=.seq (.stm [0,4,5] [kM 17 0,sd 18 (.nilck 17),kF 19 18 0,kL 20 1 19,sd 21 (.call 169 [20]),kM 5 21]) (.seq (.stm [0,4,5] [kM 22 0,sd 23 (.call 170 [22])]) z122_7)
def z122_3:LC:=.seq (.stm [0,4] [kM 10 0,sd 11 (.nilck 10),kF 12 11 0,kL 13 1 12,sd 14 (.call 169 [13]),kM 4 14]) (.seq (.stm [0,4] [kM 15 0,sd 16 (.call 170 [15])]) z122_5)
def z122_13:LC:=.seq (.stm [0] [kM 62 0,kM 63 0,kM 64 0,sd 65 (.nilck 64),kF 66 65 1,kF 67 66 1,kL 68 1 67,sd 69 (.sub 68 (ki 1)),sd 70 (.call 171 [63,69]),sd 71 (.nilck 62),kF 72 71 1,kF 73 72 4,sn (.store 1 73 70)]) (.stm [] [kM 74 0,kM 75 0,sd 76 (.call 171 [75,(ki 1)]),sd 77 (.eq 76 (ki 1)),sd 78 (.nilck 74),kF 79 78 1,kF 80 79 5,sn (.store 1 80 77)])
def z122_12:LC:=.seq (.stm [0] [kM 50 0,kM 51 0,kM 52 0,sd 53 (.nilck 52),kF 54 53 1,kF 55 54 0,kL 56 1 55,sd 57 (.sub 56 (ki 1)),sd 58 (.call 171 [51,57]),sd 59 (.nilck 50),kF 60 59 1,kF 61 60 3,sn (.store 1 61 58)]) z122_13
def z122_17:LC:=.seq (.stm [0,6] [kM 88 0,sd 89 (.call 170 [88])]) (.stm [] [kM 90 0,kM 91 6,sd 92 (.b2s 91),sd 93 (.nilck 90),kF 94 93 1,kF 95 94 7,sn (.store 1 95 92)])
def z122_16:LC:=.seq (.stm [0,6] [kM 83 0,sd 84 (.nilck 83),kF 85 84 0,kL 86 1 85,sd 87 (.call 172 [86,(ki 64)]),kM 6 87]) z122_17
def z122_21:LC:=.cond 105 (.stm [] [kM 107 0,sd 108 (.call 173 [107])]) .skip
def z122_20:LC:=.seq (.stm [0,105] [sd 106 (.eq 7 (ki 5)),kM 105 106]) z122_21
def z122_19:LC:=.cond 96 (.stm [] [kM 98 0,kM 99 0,sd 100 (.call 171 [99,(ki 2)]),sd 101 (.conv .u8 true 100),sd 102 (.nilck 98),kF 103 102 1,kF 104 103 6,sn (.store 1 104 101)]) z122_20
def z122_18:LC:=.seq (.stm [0,7,96] [sd 97 (.eq 7 (ki 4)),kM 96 97]) z122_19
def z122_14:LC:=.seq (.stm [0,7,81] [sd 82 (.eq 7 (ki 3)),kM 81 82]) (.cond 81 z122_16 z122_18)
def z122_10:LC:=.seq (.stm [0,7,48] [sd 49 (.eq 7 (ki 2)),kM 48 49]) (.cond 48 z122_12 z122_14)
def z122_1:LC:=.seq (.stm [0,7,8] [sd 9 (.eq 7 (ki 1)),kM 8 9]) (.cond 8 z122_3 z122_10)
def z122_0:LC:=.block 0 z122_1
def z122:LC:=.seq (.stm [0,7] [kM 7 1]) z122_0
theorem jcT:jad Tryz.prog eqs0 148 z122 [] 109=true:=by kernel_rfl
end
section
open Go.RowKit
set_option maxRecDepth 100000
set_option maxHeartbeats 4000000
abbrev RB2 (b:Nat) (k r:Int) (n:Nat) (x y:Int) (hd:Bool) (mo:Int) (ti:ByteArray) (l:List ByteArray):KB:=.box [.ptr 1 0 0,.int .i64 k,.int .i64 r,.slice b 0 6 n n,.int .i64 x,.int .i64 y,.bool hd,.int .u8 mo,.str ti,.vec .str l]
abbrev q_nmust (k r:Int) (L:List CD) (x y:Int) (hd:Bool) (mo:Int) (ti:ByteArray) (l:List ByteArray) (d:List Int) (a:Nat) (e:Int):QP:=(([.ptr 0 0 0],[RB2 2 k r L.length x y hd mo ti l,rdr d a e,.seq .cell L]),e,True,.ret (.tup []),[RB2 2 k r L.length x y hd mo ti l,rdr d a e,.seq .cell L])
def msp_nmust:=mspR (u12 q_nmust)
def esp_nmust:=espR (u12 q_nmust)
theorem jot:InP (u12 q_nmust):=injM
theorem jfI:W12 (hP msp_nmust esp_nmust) q_nmust:=w12 (aP rfl rfl jot)
theorem jm2:Mp 170 msp_nmust esp_nmust:=ofP (u12 q_nmust) jot fun⟨k,r,L,x,y,hd,mo,ti,l,d,a,e⟩ hG=>tfi (.m jaP jie .nil) 3 jbj (by
 dsimp only[u12,q_nmust]at hG ⊢
 have zc:=Hk.mk (@jcx)
 by_cases he:e=0
 ·rw[jaR he,jaS he]
  have hw:=he
  repeat' first|refine tU ?_|refine qac [0,1,2] [] rfl ?_|refine qaa ?_ ?_|(refine tI ?_;intro hyp)|intro hyp0|exact tZ|omega
 ·rw[jaf he,jag he]
  have hw:=eq_false he
  repeat' first|refine tU ?_|refine qad (qac [0,1,2] [] rfl ?_)|refine qaa ?_ ?_|(refine tI ?_;intro hyp)|intro hyp0|exact tZ|omega)
abbrev q_nupto (k r:Int) (L:List CD) (x y:Int) (hd:Bool) (mo:Int) (ti:ByteArray) (l:List ByteArray) (d:List Int) (a:Nat) (most:Int):QP:=(([.ptr 0 0 0,.int .i64 most],[RB2 2 k r L.length x y hd mo ti l,rdr d a 0,.seq .cell L]),upE d a most,RdOk d a∧(-1000000000000≤most∧most≤1000000000000),.ret (.int .i64 (varV d a)),[RB2 2 k r L.length x y hd mo ti l,rdr d (a+varU d a) 0,.seq .cell L])
def msp_nupto:=mspR (u12 q_nupto)
def esp_nupto:=espR (u12 q_nupto)
theorem jou:InP (u12 q_nupto):=injM
theorem jfJ:W12 (hP msp_nupto esp_nupto) q_nupto:=w12 (aP rfl rfl jou)
theorem jm3:Mp 171 msp_nupto esp_nupto:=ofP (u12 q_nupto) jou fun⟨k,r,L,x,y,hd,mo,ti,l,d,a,most⟩ hG=>tfi (.m jaG jgP (.p jbj jm2 .nil)) 3 jbk (by
 dsimp only[u12,q_nupto]at hG ⊢
 have zc:=Hk.mk (qaa @jbV @jfI)
 obtain⟨⟨h1,h2,h3⟩,h4,h5⟩:=hG
 have hv:=jae h3 a
 rcases joc d a most with⟨hE,hq,he⟩|⟨hE,hq,he⟩|⟨hE,he⟩
 ·rw[jaR he,jaS he]
  have hw:=qaa hE (qaa (jfD (n:=most) (by omega) (by omega)) (jf7 (n:=varV d a) (by omega)))
  repeat' first|exact h3 _ ‹_›|refine tU ?_|refine qac [0,1,2] [] rfl ?_|refine qaa ?_ ?_|(refine tI ?_;intro hyp)|intro hyp0|exact tZ|omega
 ·rw[jaf (by omega),jag (by omega),he]
  have hw:=hE
  repeat' first|exact h3 _ ‹_›|refine tU ?_|refine qad (qac [0,1,2] [] rfl ?_)|refine qaa ?_ ?_|(refine tI ?_;intro hyp)|intro hyp0|exact tZ|omega
  rw[jfD (by omega) (by omega)]at hyp
  omega
 ·rw[jaf (by omega),jag (by omega),he]
  repeat' first|exact h3 _ ‹_›|refine tU ?_|refine qad (qac [0,1,2] [] rfl ?_)|refine qaa ?_ ?_|(refine tI ?_;intro hyp)|intro hyp0|exact tZ|omega)
abbrev q_nrdcol (k r:Int) (L:List CD) (x y:Int) (hd:Bool) (mo:Int) (ti:ByteArray) (l:List ByteArray) (d:List Int) (a:Nat):QP:=(([.ptr 0 0 0],[RB2 2 k r L.length x y hd mo ti l,rdr d a 0,.seq .cell L]),colE d a,RdOk d a,.ret (.int .u32 (varV d a)),[RB2 2 k r L.length x y hd mo ti l,rdr d (a+varU d a) 0,.seq .cell L])
def msp_nrdcol:=mspR (u11 q_nrdcol)
def esp_nrdcol:=espR (u11 q_nrdcol)
theorem jlR:InP (u11 q_nrdcol):=injM
theorem jm4:W11 (hP msp_nrdcol esp_nrdcol) q_nrdcol:=w11 (aP rfl rfl jlR)
theorem jvt:Mp 194 msp_nrdcol esp_nrdcol:=ofP (u11 q_nrdcol) jlR fun⟨k,r,L,x,y,hd,mo,ti,l,d,a⟩ hG=>tfi (.p jbk jm3 (.f [.any] jby ji2 .nil)) 3 jcS (by
 dsimp only[u11,q_nrdcol]at hG ⊢
 have zc:=Hk.mk (qaa @jfJ @jeO)
 have hr:=hG
 obtain⟨h1,h2,h3⟩:=hG
 have hv:=jae h3 a
 rcases jf0 d a with⟨hE,hq,he⟩|⟨hE,hq,he⟩|⟨hE,he⟩
 ·rw[jaR he,jaS he]
  have hu:=jaQ hE
  have hw:=qaa hE (qaa hq (jru (n:=varV d a) (by omega)))
  repeat' first|exact hr|refine tU ?_|refine qac [0,1,2] [] rfl ?_|refine qaa ?_ ?_|(refine tI ?_;intro hyp)|intro hyp0|exact tZ|omega
 ·rw[jaf (by omega),jag (by omega),he]
  have hu:=jaQ hE
  have hw:=qaa hE (qaa hq (jru (n:=varV d a) (by omega)))
  repeat' first|exact hr|refine tU ?_|refine qad (qac [0,1,2] [] rfl ?_)|refine qaa ?_ ?_|(refine tI ?_;intro hyp)|intro hyp0|exact tZ|omega
 ·rw[jaf (by omega),jag (by omega),he]
  repeat' first|exact hr|refine tU ?_|refine qad (qac [0,1,2] [] rfl ?_)|refine qaa ?_ ?_|(refine tI ?_;intro hyp)|intro hyp0|exact tZ|omega)
end
end
end Go.Proofs.YtienkkicehmchaaGreatDoor
