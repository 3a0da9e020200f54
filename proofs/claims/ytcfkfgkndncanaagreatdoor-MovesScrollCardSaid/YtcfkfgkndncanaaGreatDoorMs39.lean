/- Texts of this claim, merged by a program of this claim: Tev, KLawR, FLawR, Held, FRun, DiffM3. -/
import Derived.Test.YtcfkfgkndncanaaGreatDoorMs10
import Derived.Test.YtcfkfgkndncanaaGreatDoorMs13
import Derived.Test.YtcfkfgkndncanaaGreatDoorMs22
import Derived.Test.YtcfkfgkndncanaaGreatDoorMs23
import Derived.Test.YtcfkfgkndncanaaGreatDoorMs24
import Derived.Test.YtcfkfgkndncanaaGreatDoorMs25
import Derived.Test.YtcfkfgkndncanaaGreatDoorMs30
import Derived.Test.YtcfkfgkndncanaaGreatDoorMs34
import Derived.Test.YtcfkfgkndncanaaGreatDoorMs38
import Derived.Test.YtcfkfgkndncanaaGreatDoorMs5
namespace Go.Proofs.YtcfkfgkndncanaaGreatDoor
set_option linter.unusedVariables false
set_option linter.unusedSimpArgs false
section
open Go.RowKit
set_option maxRecDepth 1000000
def tb18:List (KR Tryz.prog eqs0):=[.of jhe,.of jgl,.of jjD,.of jvH,.of jq1,.of jo7,.of jfO,.of jfm,.of jcy,.of jfL,.of jer,.of jis,.of jfM,.of jgD,.of jeA,.of jbA,.of jb6,.of jfW,.of jhd,.of jdV,.of jdP,.of jiz,.of jll,.of jhr,.of jdz,.of jiR,.of jd2,.of ja7,.of jfX,.of jdk,.of jdl,.of jfu,.of jdR,.of jdw,.of jhk,.of jcB,.of jef,.of jeB,.of jgp,.of jfN,.of jiy,.of jfP,.of jcY,.of jeC,.of jce,.of jdx,.of jcL,.of jdy,.of jeD,.of jf0,.of jgq,.of je8,.of jtv,.of jlv]
def fz18:List FuncId:=[92,51,21,96,98,127,129,59,124,97,56,99,114,100,57,58,22,126,119,128,120,121,89,123,122,90,48,113,91,83,84,85,115,86,130,103,65,105,116,87,117,118,88,47,17,16,14,8]
set_option maxHeartbeats 4000000 in
theorem ev18:(evF E0 (tb18.map KR.r) [] fz18 200 (19+1) 8 [] []).map (·.1)=some (.ret (.bool true)):=by kernel_rfl
theorem jtH:TF Tryz.prog E0 8 [] [] (.ret (.bool true)) []:=Alias.run tb18 _ 200 19 ev18
end
section
open Go.RowKit
set_option maxRecDepth 100000
def z100_3:LC:=.seq (.stm [8] [sd 45 (.call 8 []),kM 8 45]) .ret
def z100_2:LC:=.cond 44 z100_3 .skip
def z100_1:LC:=.seq (.stm [1,2,3,4,44] [sd 17 (.load true 9 4),sd 18 (.call 7 [17]),kM 19 18,.g 19 false [sd 20 (.load true 9 4),sd 21 (.call 15 [20]),sd 22 (.un .not 21)] 23 kt 22,kM 24 23,.g 24 false [kF 25 4 8,kL 26 1 25,sd 27 (.len false 26),sd 28 (.cmp .gtr 27 (ki 0))] 29 kt 28,kM 30 29,.g 30 false [kF 31 4 1,kL 32 1 31,sd 33 (.lt 32 (ki 2))] 34 kt 33,kM 35 34,.g 35 false [kM 36 3,sd 37 (.lt 36 (ki 0))] 38 kt 37,kM 39 38,.g 39 false [kM 40 3,kF 41 4 0,kL 42 1 41,sd 43 (.cmp .geq 40 42)] 44 kt 43]) z100_2
def z100_12:LC:=.cond 61 .skip (.exit 0)
def z100_11:LC:=.seq (.stm [1,3,4,9,10,11,61] [kM 59 11,kM 60 10,sd 61 (.lt 59 60)]) z100_12
def z100_14:LC:=.block 1 (.stm [1,3,4,9,10,11] [sd 64 (.load true 3 9),kM 65 11,kF 66 4 1,kL 67 1 66,sd 68 (.sub 67 (ki 1)),kM 69 1,sd 70 (.ari .rem false 69 (k8 26)),sd 71 (.ari .add true (k8 97) 70),sd 72 (.conv .i32 false 71),sd 73 (.build [.int .u32 0,.int .u32 0,.int .u8 0,.int .u16 0] []),sd 74 (.call 20 [64,(ki 0),65,68,(ki 0),72,73]),sn (.store 3 9 74)])
def z100_13:LC:=.seq z100_14 (.stm [1,3,4,9,10,11] [kM 62 11,sd 63 (.add 62 (ki 1)),kM 11 63])
def z100_10:LC:=.seq z100_11 z100_13
def z100_9:LC:=.loop z100_10
def z100_8:LC:=.block 0 z100_9
def z100_7:LC:=.seq (.stm [1,3,4,9,10,11] [kM 11 (ki 0)]) z100_8
def z100_19:LC:=.seq (.stm [8] [sd 98 (.call 8 []),kM 99 98,.g 99 true [kM 100 14,sd 101 (.eq 100 (ki 0))] 102 101 kf,kM 103 102,.g 103 true [kM 104 16,sd 105 (.eq 104 (ki 0))] 106 105 kf,kM 107 106,.g 107 true [sd 108 (.load true 9 15),sd 109 (.load true 9 12),sd 110 (.call 13 [108,109])] 111 110 kf,kM 112 111,.g 112 true [kM 113 13,sd 114 (.len false 113),kM 115 10,sd 116 (.ari .mul false (ki 17) 115),sd 117 (.add (ki 60) 116),sd 118 (.cmp .leq 114 117)] 119 118 kf,kM 8 119]) .ret
def z100_18:LC:=.seq (.stm [10,12,13,14,15,16] [sd 93 (.load true 9 4),kM 94 13,sd 95 (.call 11 [93,94]),kM 92 95,sd 96 (.ext 92 0),sd 97 (.ext 92 1),sd 15 (.zero [.int .i64 0,.int .i64 0,.nils,.int .i64 0,.int .i64 0,.bool false,.int .u8 0,.str (bs []),.nils]),sn (.store 9 15 96),kM 16 97]) z100_19
def z100_17:LC:=.seq (.stm [4,10,12,13,14] [sd 87 (.load true 9 4),sd 88 (.load true 9 12),sd 89 (.call 16 [87,88]),kM 86 89,sd 90 (.ext 86 0),sd 91 (.ext 86 1),kM 13 90,kM 14 91]) z100_18
def z100_16:LC:=.seq (.reg [4,10,12] [kR 0 77 (.fa 9 2),kR 1 78 (.ld 1 77),kR 2 79 (.mov 3),kR 3 80 (.fa 4 1),kR 4 81 (.ld 1 80),kR 5 82 (.sub 81 (ki 1)),kR 6 83 (.fa 12 2),⟨7,none,none,.store 1 83 78,true,true⟩,kR 8 84 (.fa 12 3),⟨9,none,none,.store 1 84 79,true,true⟩,kR 10 85 (.fa 12 4),⟨11,none,none,.store 1 85 82,false,true⟩]) z100_17
def z100_15:LC:=.seq (.stm [3,4,9,10,12] [sd 75 (.load true 9 4),sd 76 (.call 9 [75]),sd 12 (.zero [.int .i64 0,.int .i64 0,.nils,.int .i64 0,.int .i64 0,.bool false,.int .u8 0,.str (bs []),.nils]),sn (.store 9 12 76)]) z100_16
def z100_6:LC:=.seq z100_7 z100_15
def z100_5:LC:=.seq (.stm [1,3,4,9,10] [kM 53 2,sd 54 (.conv .i64 false 53),kF 55 4 0,kL 56 1 55,sd 57 (.ari .rem false 54 56),sd 58 (.add 57 (ki 1)),kM 10 58]) z100_6
def z100_4:LC:=.seq (.reg [1,2,3,4,9] [kR 0 46 (.load true 9 4),kR 2 48 (.fa 4 1),kR 3 49 (.ld 1 48),kR 4 50 (.sub 49 (ki 1)),kR 5 51 (.build [.int .u32 0,.int .u32 0,.int .u8 0,.int .u16 0] []),⟨1,some 47,none,.call 19 [46],true,true⟩,⟨6,some 52,none,.call 18 [47,(ki 0),50,(ki 1),51],false,true⟩,kR 7 9 (.zero [.int .i64 0,.int .i64 0,.nils]),⟨8,none,none,.store 3 9 52,false,true⟩]) z100_5
def z100_0:LC:=.seq z100_1 z100_4
def z100:LC:=.seq (.stm [1,2,3,4] [sd 4 (.box 0),kM 8 kf]) z100_0
theorem jiU:jaH Tryz.prog eqs0 6 z100 [.t 8] 120=true:=by kernel_rfl
end
section
open Go.RowKit
set_option maxRecDepth 100000
set_option maxHeartbeats 4000000
abbrev jsx:List CV:=[]
abbrev f_fixedE:Prop×Res:=(True,.ret (.bool true))
noncomputable def sp_fixedE:Spec:=spOf (α:=Unit) (fun _=>jsx) fun _=>f_fixedE
theorem jca:sp_fixedE jsx=some f_fixedE:=jak _ (fun _ _ _=>rfl) ()
theorem jxa:Alias Tryz.prog E0 8 sp_fixedE:=Alias.of fun _ hG=>(by
 dsimp only at hG ⊢
 exact jtH)
theorem jxb:Fresh Tryz.prog E0 8 sp_fixedE:=Alias.fresh jxa (fun x=>rfl)
end
section
open Go.RowKit
structure Held (p:Prop):Prop where
 out:p
theorem jy5 {x1 y1 x2 y2:Nat}{h1 h2:Bool}:curC x1 y1 h1 x2 y2 h2=true↔((¬(x2:Int)=x1∨¬(y2:Int)=y1)∨(h2==h1)=false):=by
 unfold curC
 cases h1<;>cases h2<;>simp
theorem jc4 (a:Int) (l:List Int):jc7 (a::l)=varN a.toNat++jc7 l:=rfl
theorem jh0:jc7 []=[]:=rfl
theorem jiV (a:Nat) (l:List Nat):jbc (a::l)=varN a++jbc l:=rfl
theorem jlw:jbc []=[]:=rfl
theorem jjH {n:Nat}(h:n<128):varN n=[(n:Int)]:=jek h
end
section
open Go.RowKit
set_option maxRecDepth 100000
set_option maxHeartbeats 4000000
abbrev jrb (i:Nat) (k:Int) (r:Int) (L:List CD) (x:Int) (y:Int) (hd:Bool) (mo:Int) (ti:ByteArray) (l:List ByteArray):List CV:=[.int .i64 i,.ptr 0 0 0]
abbrev jrc (i:Nat) (k:Int) (r:Int) (L:List CD) (x:Int) (y:Int) (hd:Bool) (mo:Int) (ti:ByteArray) (l:List ByteArray):KH:=[.box [.int .i64 k,.int .i64 r,.vec .cell L,.int .i64 x,.int .i64 y,.bool hd,.int .u8 mo,.str ti,.vec .str l]]
abbrev jrd (i:Nat) (k:Int) (r:Int) (L:List CD) (x:Int) (y:Int) (hd:Bool) (mo:Int) (ti:ByteArray) (l:List ByteArray):Prop×Res×KH:=(i<L.length∧L.length≤60000,.ret (.int .i64 (jag L i)),[.box [.int .i64 k,.int .i64 r,.vec .cell L,.int .i64 x,.int .i64 y,.bool hd,.int .u8 mo,.str ti,.vec .str l]])
noncomputable def msp_wideF:MSpec:=jcS (α:=Nat×Int×Int×(List CD)×Int×Int×Bool×Int×ByteArray×(List ByteArray)) (fun⟨i,k,r,L,x,y,hd,mo,ti,l⟩=>(jrb i k r L x y hd mo ti l,jrc i k r L x y hd mo ti l)) fun⟨i,k,r,L,x,y,hd,mo,ti,l⟩=>jrd i k r L x y hd mo ti l
theorem jaV (i:Nat) (k:Int) (r:Int) (L:List CD) (x:Int) (y:Int) (hd:Bool) (mo:Int) (ti:ByteArray) (l:List ByteArray):msp_wideF (jrb i k r L x y hd mo ti l) (jrc i k r L x y hd mo ti l)=some (jrd i k r L x y hd mo ti l):=jbd _ injM (i,k,r,L,x,y,hd,mo,ti,l)
theorem jsy:MutF Tryz.prog E0 117 msp_wideF:=MutF.of fun⟨i,k,r,L,x,y,hd,mo,ti,l⟩ hG=>TF.intro (V:=(VV [] GOk.nil 11 1)) jcL rfl rfl (by
 dsimp only[jrb,jrc,jrd]at hG ⊢
 obtain⟨hi,hl⟩:=hG
 have hwd:jag L i=if (L.getD i default).wide=1 then 2 else 1:=by
  unfold jag
  rw[jfZ hi]
 repeat' first|simp only[SA,MB,seval,rdB]|refine tT ?_|refine And.intro ?_ ?_|exact tC|(refine tI ?_;intro hyp)|intro hyp0|omega
 ·exact Cos.intro [0] [] rfl (by rw[hwd,if_pos hyp];(simp only[SA,MB,seval,rdB]<;>exact tE))
 ·exact Cos.intro [0] [] rfl (by rw[hwd,if_neg hyp];(simp only[SA,MB,seval,rdB]<;>exact tE)))
abbrev jn4 (i:Nat) (C:List CD) (k:Int) (r:Int) (L:List CD) (x:Int) (y:Int) (hd:Bool) (mo:Int) (ti:ByteArray) (l:List ByteArray):List CV:=[.int .i64 i,.ptr 0 0 0,.ptr 1 0 0,.ptr 2 0 0]
abbrev jn5 (i:Nat) (C:List CD) (k:Int) (r:Int) (L:List CD) (x:Int) (y:Int) (hd:Bool) (mo:Int) (ti:ByteArray) (l:List ByteArray):KH:=[.box [.vec .cell C],.box [.fn 117 [.ptr 2 0 0]],.box [.int .i64 k,.int .i64 r,.vec .cell L,.int .i64 x,.int .i64 y,.bool hd,.int .u8 mo,.str ti,.vec .str l]]
abbrev jn6 (i:Nat) (C:List CD) (k:Int) (r:Int) (L:List CD) (x:Int) (y:Int) (hd:Bool) (mo:Int) (ti:ByteArray) (l:List ByteArray):Prop×Res×KH:=(i+jag L i≤L.length∧C.length=L.length∧L.length≤60000,.ret (.bool (jbe C L i)),[.box [.vec .cell C],.box [.fn 117 [.ptr 2 0 0]],.box [.int .i64 k,.int .i64 r,.vec .cell L,.int .i64 x,.int .i64 y,.bool hd,.int .u8 mo,.str ti,.vec .str l]])
noncomputable def msp_otherF:MSpec:=jcS (α:=Nat×(List CD)×Int×Int×(List CD)×Int×Int×Bool×Int×ByteArray×(List ByteArray)) (fun⟨i,C,k,r,L,x,y,hd,mo,ti,l⟩=>(jn4 i C k r L x y hd mo ti l,jn5 i C k r L x y hd mo ti l)) fun⟨i,C,k,r,L,x,y,hd,mo,ti,l⟩=>jn6 i C k r L x y hd mo ti l
theorem jaX (i:Nat) (C:List CD) (k:Int) (r:Int) (L:List CD) (x:Int) (y:Int) (hd:Bool) (mo:Int) (ti:ByteArray) (l:List ByteArray):msp_otherF (jn4 i C k r L x y hd mo ti l) (jn5 i C k r L x y hd mo ti l)=some (jn6 i C k r L x y hd mo ti l):=jbd _ injM (i,C,k,r,L,x,y,hd,mo,ti,l)
theorem jxe:MutF Tryz.prog E0 118 msp_otherF:=MutF.of fun⟨i,C,k,r,L,x,y,hd,mo,ti,l⟩ hG=>TF.intro (V:=(VV [(117,conM msp_wideF),(116,conF [.sl .cell,.sl .cell] sp_equal)] (.cons (jaa jcL) (MutF.soundM jsy) (.cons (jaa jce) (Fresh.soundF jr9) GOk.nil)) 25 3)) jdy rfl rfl (by
 dsimp only[jn4,jn5,jn6]at hG ⊢
 obtain⟨hi,hC,hl⟩:=hG
 have hwp:=ja3 L i
 have hlen:∀X:List CD,(List.take (jag L i) (List.drop i X)).length≤4611686018427387904:=fun X=>by
  rw[List.length_take]
  omega
 repeat' first|exact hlen _|simp only[SA,MB,seval,rdB,jaV,ja8]|refine tT ?_|refine And.intro ?_ ?_|exact tC|(refine tI ?_;intro hyp)|intro hyp0|omega
 exact Cos.intro [0,1,2] [] rfl (by simp only[jbe];(simp only[SA,MB,seval,rdB,jaV,ja8]<;>exact tE)))
theorem jCM {i bh kk:Nat}{q:CD}(hb:bh≤i) (hq:CWf q):jc7 [(i:Int)-bh,(kk:Int),q.fg,q.bg,q.attrs,q.link]=jbc ([i-bh,kk]++penN q.pen):=by
 rw[←jhY]
 have h1:=hq.fg
 have h2:=hq.bg
 have h3:=hq.attrs
 have h4:=hq.link
 congr 1
 simp only[penN,CD.pen,List.cons_append,List.nil_append,List.map_cons,List.map_nil,Int.ofNat_eq_natCast,List.cons.injEq,and_true]
 (repeat' apply And.intro)<;>first|rfl|omega|trivial
abbrev jre (C:List CD) (k:Int) (r:Int) (L:List CD) (x:Int) (y:Int) (hd:Bool) (mo:Int) (ti:ByteArray) (l:List ByteArray):List CV:=[.vec .cell C,.agg [.int .i64 k,.int .i64 r,.vec .cell L,.int .i64 x,.int .i64 y,.bool hd,.int .u8 mo,.str ti,.vec .str l]]
abbrev jrf (C:List CD) (k:Int) (r:Int) (L:List CD) (x:Int) (y:Int) (hd:Bool) (mo:Int) (ti:ByteArray) (l:List ByteArray):Prop×Res:=(C.length=L.length∧L.length≤1920∧(∀q∈L,CWf q)∧(∀q∈L,0≤q.rune)∧(∀i,i<L.length→i+jag L i≤L.length),.ret (.vec (.int .u8) (jcX C L)))
noncomputable def sp_mruns:Spec:=spOf (α:=(List CD)×Int×Int×(List CD)×Int×Int×Bool×Int×ByteArray×(List ByteArray)) (fun⟨C,k,r,L,x,y,hd,mo,ti,l⟩=>jre C k r L x y hd mo ti l) fun⟨C,k,r,L,x,y,hd,mo,ti,l⟩=>jrf C k r L x y hd mo ti l
theorem jar (C:List CD) (k:Int) (r:Int) (L:List CD) (x:Int) (y:Int) (hd:Bool) (mo:Int) (ti:ByteArray) (l:List ByteArray):sp_mruns (jre C k r L x y hd mo ti l)=some (jrf C k r L x y hd mo ti l):=jak _ injS (C,k,r,L,x,y,hd,mo,ti,l)
theorem jy7:Fresh Tryz.prog E0 88 sp_mruns:=Fresh.of fun⟨C,k,r,L,x,y,hd,mo,ti,l⟩ hG=>TF.intro (V:=(VV [(117,conM msp_wideF),(118,conM msp_otherF),(91,conT [.sl (.int .i64)] sp_vars),(49,conT [.any,.sl (.int .i64)] sp_put),(113,conT [.any] sp_var)] (.cons (jaa jcL) (MutF.soundM jsy) (.cons (jaa jdy) (MutF.soundM jxe) (.cons (jaa jdR) (Fresh.soundT jqG) (.cons (jaa jdw) (Fresh.soundT jsq) (.cons (jaa jfu) (Fresh.soundT jwl) GOk.nil))))) 105 0)) jeD rfl rfl (by
 dsimp only[jre,jrf]at hG ⊢
 obtain⟨hC,hl,hwf,hru,hwd⟩:=hG
 obtain⟨oth,hoth⟩:∃o,o=jbe C L:=⟨_,rfl⟩
 have heq:=jqD C L
 rw[←hoth]at heq
 rw[heq]
 have hw5:∀i,jbe C L i=oth i:=fun i=>by rw[hoth]
 repeat' first|simp only[SA,MB,seval,rdB,jaV,jaX,jaF,jae,ja9]|simp only[hw]|simp only[hw2]|simp only[hw5]|refine tT ?_|refine And.intro ?_ ?_|exact tC|(refine tI ?_;intro hyp)|intro hyp0|omega
 refine T.loop (fun q:Nat×Nat×Nat×List Int=>⟨[(2,.ptr 0 0 0),(3,.ptr 1 0 0),(5,.slice 3 0 1 q.2.2.2.length q.2.2.2.length),(6,.int .i64 q.2.2.1),(7,.int .i64 q.2.1),(8,.ptr 2 0 0),(9,.fn 118 [.ptr 0 0 0,.ptr 2 0 0,.ptr 1 0 0]),(10,.int .i64 q.1)],[.box [.vec .cell C],.box [.int .i64 k,.int .i64 r,.vec .cell L,.int .i64 x,.int .i64 y,.bool hd,.int .u8 mo,.str ti,.vec .str l],.box [.fn 117 [.ptr 1 0 0]],.seq (.int .u8) q.2.2.2]⟩) (fun q=>Outn L oth q.1 q.2.1 q.2.2.1 q.2.2.2) (fun q=>L.length-q.1) (0,0,0,[]) ⟨⟨Nat.le_refl _,Nat.zero_le _⟩,rfl,by simp⟩ (Cos.intro [0,1,2,99] [] rfl (by simp only[SA,MB,seval,rdB,jaV,jaX,jaF,jae,ja9];first|done|simp[crs,crsL,jct])) (fun⟨i,bh,nn,bs⟩ hout=>?_)
 dsimp only at hout ⊢
 have hle:=hout.le
 have hsm:=hout.small hwf (by omega)
 by_cases hil:i<L.length
 ·have hwi:=hwd i hil
  have hwp:=ja3 L i
  cases ho:oth i
  ·have hsk:=hout.skip hil ho hwi
   have hw:=ho
   repeat' first|simp only[SA,MB,seval,rdB,jaV,jaX,jaF,jae,ja9]|simp only[hw]|simp only[hw2]|simp only[hw5]|refine tT ?_|refine And.intro ?_ ?_|exact tC|(refine tI ?_;intro hyp)|intro hyp0|omega
   exact⟨(i+jag L i,bh,nn,bs),hsk,by simp only;omega,Cos.intro [0,1,2,3] [] rfl (by (simp only[SA,MB,seval,rdB,jaV,jaX,jaF,jae,ja9]<;>exact tE))⟩
  ·have hw:=ho
   have hcw:=hwf _ (jcU hil)
   have hcg:=jfZ hil
   repeat' first|simp only[SA,MB,seval,rdB,jaV,jaX,jaF,jae,ja9]|simp only[hw]|simp only[hw2]|simp only[hw5]|refine tT ?_|refine And.intro ?_ ?_|exact tC|(refine tI ?_;intro hyp)|intro hyp0|omega
   refine T.loop (fun q:Nat×Nat×List Int=>⟨[(2,.ptr 0 0 0),(3,.ptr 1 0 0),(5,.slice 3 0 1 bs.length bs.length),(6,.int .i64 nn),(7,.int .i64 bh),(8,.ptr 2 0 0),(9,.fn 118 [.ptr 0 0 0,.ptr 2 0 0,.ptr 1 0 0]),(10,.int .i64 q.1),(11,.ptr 4 0 0),(12,.int .i64 i),(13,.int .i64 q.2.1),(14,.slice 5 0 1 q.2.2.length q.2.2.length)],[.box [.vec .cell C],.box [.int .i64 k,.int .i64 r,.vec .cell L,.int .i64 x,.int .i64 y,.bool hd,.int .u8 mo,.str ti,.vec .str l],.box [.fn 117 [.ptr 1 0 0]],.seq (.int .u8) bs,.box [.int .u32 (L.getD i default).fg,.int .u32 (L.getD i default).bg,.int .u8 (L.getD i default).attrs,.int .u16 (L.getD i default).link],.seq (.int .u8) q.2.2]⟩) (fun q=>Inn L (cAt L i).pen oth i q.1 q.2.1 q.2.2) (fun q=>L.length-q.1) (i,0,[]) (Inn.start (by omega)) (Cos.intro [0,1,2,3,4,99] [] rfl (by simp only[SA,MB,seval,rdB,jaV,jaX,jaF,jae,ja9];simp[crs,crsL,jct,CD.pen])) (fun⟨j,kk,rb⟩ hin=>?_)
   dsimp only at hin ⊢
   have hle2:=hin.le
   have hsm2:=hin.small hwf (by omega)
   have hend:¬(j<L.length∧oth j=true∧(cAt L j).pen=(cAt L i).pen)→i<j∧Outn L oth j j (nn+1) (bs++jbc ([i-bh,kk]++penN (cAt L i).pen)++rb):=fun h=>⟨hin.far hil ho h,hout.go hil ho hin h⟩
   have hv6:=jCM (kk:=kk) hle.1 hcw
   have hvl6:=jkV [(i:Int)-bh,(kk:Int),(L.getD i default).fg,(L.getD i default).bg,(L.getD i default).attrs,(L.getD i default).link] (fun u hu=>by
    have h1:=hcw.fg
    have h2:=hcw.bg
    have h3:=hcw.attrs
    have h4:=hcw.link
    simp only[HB,ne_eq,reduceCtorEq]at hu
    omega)
   simp only[List.length_cons,List.length_nil]at hvl6
   have hcf:=hcw.fg
   have hcb:=hcw.bg
   have hca:=hcw.attrs
   have hclk:=hcw.link
   by_cases hjl:j<L.length
   ·have hwj:=hwd j hjl
    have hwpj:=ja3 L j
    have hrj:=hru _ (jcU hjl)
    have hrw:=(hwf _ (jcU hjl)).rune
    have hcj:=jfZ hjl
    have hw2:IntKind.u64.wrap (L.getD j default).rune=(L.getD j default).rune:=jpz (by omega)
    have h10:=jb2 (L.getD j default).rune.toNat (by omega)
    cases ho2:oth j
    ·have hw:=ho2
     have hE:=hend (by rw[ho2];simp)
     rw[hcg]at hE
     repeat' first|simp only[SA,MB,seval,rdB,jaV,jaX,jaF,jae,ja9]|simp only[hw]|simp only[hw2]|simp only[hw5]|refine tT ?_|refine And.intro ?_ ?_|exact tC|(refine tI ?_;intro hyp)|intro hyp0|omega
     exact⟨(j,j,nn+1,_),hE.2,by simp only;have:=hE.1;omega,Cos.intro [0,1,2,9] [] rfl (by rw[hv6];(simp only[SA,MB,seval,rdB,jaV,jaX,jaF,jae,ja9]<;>exact tE))⟩
    ·have hw:=ho2
     repeat' first|simp only[SA,MB,seval,rdB,jaV,jaX,jaF,jae,ja9]|simp only[hw]|simp only[hw2]|simp only[hw5]|refine tT ?_|refine And.intro ?_ ?_|exact tC|(refine tI ?_;intro hyp)|intro hyp0|omega
     ·have hgo:=hin.go hjl ho2 (by rw[hcj,hcg];exact hyp) hwj
      rw[hcj]at hgo
      exact⟨(j+jag L j,kk+1,_),hgo,by simp only;omega,Cos.intro [0,1,2,3,4,7] [] rfl (by (simp only[SA,MB,seval,rdB,jaV,jaX,jaF,jae,ja9]<;>exact tE))⟩
     ·have hE:=hend (fun h=>hyp (by rw[←hcj,←hcg];exact h.2.2))
      rw[hcg]at hE
      exact⟨(j,j,nn+1,_),hE.2,by simp only;have:=hE.1;omega,Cos.intro [0,1,2,9] [] rfl (by rw[hv6];(simp only[SA,MB,seval,rdB,jaV,jaX,jaF,jae,ja9]<;>exact tE))⟩
   ·have hE:=hend (fun h=>hjl h.1)
    rw[hcg]at hE
    repeat' first|simp only[SA,MB,seval,rdB,jaV,jaX,jaF,jae,ja9]|simp only[hw]|simp only[hw2]|simp only[hw5]|refine tT ?_|refine And.intro ?_ ?_|exact tC|(refine tI ?_;intro hyp)|intro hyp0|omega
    exact⟨(j,j,nn+1,_),hE.2,by simp only;have:=hE.1;omega,Cos.intro [0,1,2,9] [] rfl (by rw[hv6];(simp only[SA,MB,seval,rdB,jaV,jaX,jaF,jae,ja9]<;>exact tE))⟩
 ·obtain⟨e1,e2⟩:=hout.done (by omega)
  rw[←e1,←e2]
  have hw:jc7 [(nn:Int)]=varN nn:=by simp only[jc7,List.flatMap_cons,List.flatMap_nil,List.append_nil,Int.toNat_natCast]
  have h10:=jb2 nn (by omega)
  repeat' first|simp only[SA,MB,seval,rdB,jaV,jaX,jaF,jae,ja9]|simp only[hw]|simp only[hw2]|simp only[hw5]|refine tT ?_|refine And.intro ?_ ?_|exact tC|(refine tI ?_;intro hyp)|intro hyp0|omega
  ·rw[if_pos (show nn=0 by omega)]
   exact Cos.intro [99] [] rfl (by simp only[SA,MB,seval,rdB,jaV,jaX,jaF,jae,ja9];first|done|simp[crs,crsL,jct])
  ·rw[if_neg (show ¬nn=0 by omega)]
   refine Cos.intro [6] [] rfl ?_
   (simp only[SA,MB,seval,rdB,jaV,jaX,jaF,jae,ja9]<;>exact tE))
end
section
open Go.RowKit
def Asc (W:List CD) (l:List Nat):Prop:=∀j,j+1<l.length→l.getD j 0+jag W (l.getD j 0)≤l.getD (j+1) 0
theorem Asc.cons {W:List CD}{l:List Nat}{i:Nat}(h:Asc W l) (hi:∀x∈l,i+jag W i≤x):Asc W (i::l):=by
 intro j hj
 cases j with
 | zero =>
  cases l with
  | nil=>simp at hj
  | cons y l=>simpa using hi y (by simp)
 | succ j=>simpa using h j (by simpa using hj)
end
end Go.Proofs.YtcfkfgkndncanaaGreatDoor
