/- Texts of this claim, merged by a program of this claim: FCell. -/
import Derived.Test.YtcfkfgkndncanaaGreatDoorMs13
import Derived.Test.YtcfkfgkndncanaaGreatDoorMs16
import Derived.Test.YtcfkfgkndncanaaGreatDoorMs6
namespace Go.Proofs.YtcfkfgkndncanaaGreatDoor
set_option linter.unusedVariables false
set_option linter.unusedSimpArgs false
section
open Go.RowKit
set_option maxRecDepth 100000
set_option maxHeartbeats 4000000
theorem Cos.nilRow {h:KH}{t:ETy}{L:List t.T}(e:L=[]):Cos 0 ⟨[(0,.nils)],h⟩ ⟨[(0,.slice 0 0 t.esz L.length L.length)],[.seq t L]⟩:=by
 subst e
 refine Cos.intro [h.length] [] (by simp[jgO,imgs,jb0]) ⟨?_,?_⟩
 ·simp[crsH,jct]
 ·simp[crsF,Fr.get,crs]
def jeu (c:Int):Bool:=decide (c≤256) || (decide (16777216≤c)&&decide (c≤33554431))
def penB (p:PD):Bool:=jeu p.fg&&jeu p.bg
def mayB (c:CD):Bool:=penB c.pen&&((c.wide==0&&Utf.width c.rune==1) || (c.wide==1&&Utf.width c.rune==2) || (c.wide==2&&c.rune==0))
def jeU (p:PD):CD:=⟨32,0,0,p.bg,0,0⟩
def penSame (p q:PD):Bool:=decide (p=q)
def jee (p q:CD):Bool:=decide (p=q)
theorem ibeq (a b:Int):(a==b)=decide (a=b):=by by_cases h:a=b<;>simp[h]
theorem nbeq (a b:Nat):(a==b)=decide (a=b):=by by_cases h:a=b<;>simp[h]
abbrev jqb (c:Int):List CV:=[.int .u32 c]
abbrev jqc (c:Int):Prop×Res:=(True,.ret (.bool (jeu c)))
noncomputable def sp_color:Spec:=spOf (α:=Int) (fun c=>jqb c) fun c=>jqc c
theorem jev (c:Int):sp_color (jqb c)=some (jqc c):=jak _ injS c
theorem jyy:Alias Tryz.prog E0 127 sp_color:=Alias.of fun c hG=>TF.intro (V:=(VV [] GOk.nil 13 0)) jcy rfl rfl (by
 dsimp only[jqb,jqc]at hG ⊢
 repeat' first|simp only[SA,seval,rdB,List.drop_replicate]|refine tT ?_|refine Cos.intro [] [] rfl ?_|refine And.intro ?_ ?_|exact tC|(refine tI ?_;intro hyp)|intro hyp0|omega
 rfl)
theorem jng:Fresh Tryz.prog E0 127 sp_color:=Alias.fresh jyy (fun x=>rfl)
abbrev jnh (c:Int):List CV:=[.int .u32 c]
abbrev jni (c:Int):Prop×Res:=(True,.ret (.bool (jeu c)))
noncomputable def sp_rcolor:Spec:=spOf (α:=Int) (fun c=>jnh c) fun c=>jni c
theorem joO (c:Int):sp_rcolor (jnh c)=some (jni c):=jak _ injS c
theorem jvh:Alias Tryz.prog E0 74 sp_rcolor:=Alias.of fun c hG=>TF.intro (V:=(VV [] GOk.nil 13 0)) jgT rfl rfl (by
 dsimp only[jnh,jni]at hG ⊢
 repeat' first|simp only[SA,seval,rdB,List.drop_replicate]|refine tT ?_|refine Cos.intro [] [] rfl ?_|refine And.intro ?_ ?_|exact tC|(refine tI ?_;intro hyp)|intro hyp0|omega
 rw[jeu,show decide (c<33554432)=decide (c≤33554431)from decide_eq_decide.2 (by omega)])
theorem jvi:Fresh Tryz.prog E0 74 sp_rcolor:=Alias.fresh jvh (fun x=>rfl)
abbrev jvj (p:PD):List CV:=[penV p]
abbrev jvk (p:PD):Prop×Res:=(True,.ret (.bool (penB p)))
noncomputable def sp_cpen:Spec:=spOf (α:=PD) (fun p=>jvj p) fun p=>jvk p
theorem jtf (p:PD):sp_cpen (jvj p)=some (jvk p):=jak _ injS p
theorem jAH:Alias Tryz.prog E0 129 sp_cpen:=Alias.of fun p hG=>TF.intro (V:=(VV [(127,conF [.any] sp_color)] (.cons (jaa jcy) (Fresh.soundF jng) GOk.nil) 11 0)) jfL rfl rfl (by
 dsimp only[jvj,jvk]at hG ⊢
 repeat' first|simp only[SA,seval,rdB,jev,List.drop_replicate]|refine tT ?_|refine Cos.intro [] [] rfl ?_|refine And.intro ?_ ?_|exact tC|(refine tI ?_;intro hyp)|intro hyp0|omega
 rfl)
theorem jAI:Fresh Tryz.prog E0 129 sp_cpen:=Alias.fresh jAH (fun x=>rfl)
abbrev jvl (p:PD):List CV:=[penV p]
abbrev jvm (p:PD):Prop×Res:=(True,.ret (.bool (penB p)))
noncomputable def sp_gpen:Spec:=spOf (α:=PD) (fun p=>jvl p) fun p=>jvm p
theorem jtg (p:PD):sp_gpen (jvl p)=some (jvm p):=jak _ injS p
theorem jAJ:Alias Tryz.prog E0 130 sp_gpen:=Alias.of fun p hG=>TF.intro (V:=(VV [(127,conF [.any] sp_color)] (.cons (jaa jcy) (Fresh.soundF jng) GOk.nil) 11 0)) jfN rfl rfl (by
 dsimp only[jvl,jvm]at hG ⊢
 repeat' first|simp only[SA,seval,rdB,jev,List.drop_replicate]|refine tT ?_|refine Cos.intro [] [] rfl ?_|refine And.intro ?_ ?_|exact tC|(refine tI ?_;intro hyp)|intro hyp0|omega
 rfl)
theorem jAK:Fresh Tryz.prog E0 130 sp_gpen:=Alias.fresh jAJ (fun x=>rfl)
abbrev jvn (p:PD):List CV:=[penV p]
abbrev jvo (p:PD):Prop×Res:=(True,.ret (.bool (penB p)))
noncomputable def sp_rpen:Spec:=spOf (α:=PD) (fun p=>jvn p) fun p=>jvo p
theorem jbj (p:PD):sp_rpen (jvn p)=some (jvo p):=jak _ injS p
theorem jAL:Alias Tryz.prog E0 50 sp_rpen:=Alias.of fun p hG=>TF.intro (V:=(VV [(74,conF [.any] sp_rcolor)] (.cons (jaa jgT) (Fresh.soundF jvi) GOk.nil) 11 0)) jdQ rfl rfl (by
 dsimp only[jvn,jvo]at hG ⊢
 repeat' first|simp only[SA,seval,rdB,joO,List.drop_replicate]|refine tT ?_|refine Cos.intro [] [] rfl ?_|refine And.intro ?_ ?_|exact tC|(refine tI ?_;intro hyp)|intro hyp0|omega
 rfl)
theorem jnj:Fresh Tryz.prog E0 50 sp_rpen:=Alias.fresh jAL (fun x=>rfl)
abbrev jnk (p:PD):List CV:=[penV p]
abbrev jnl (p:PD):Prop×Res:=(True,.ret (jcp (jeU p)))
noncomputable def sp_cblank:Spec:=spOf (α:=PD) (fun p=>jnk p) fun p=>jnl p
theorem jav (p:PD):sp_cblank (jnk p)=some (jnl p):=jak _ injS p
theorem jvp:Alias Tryz.prog E0 126 sp_cblank:=Alias.of fun p hG=>TF.intro (V:=(VV [] GOk.nil 7 0)) jdP rfl rfl (by
 dsimp only[jnk,jnl]at hG ⊢
 repeat' first|simp only[SA,seval,rdB,List.drop_replicate]|refine tT ?_|refine Cos.intro [] [] rfl ?_|refine And.intro ?_ ?_|exact tC|(refine tI ?_;intro hyp)|intro hyp0|omega
 all_goals rfl)
theorem jkA:Fresh Tryz.prog E0 126 sp_cblank:=Alias.fresh jvp (fun x=>rfl)
abbrev jnm (p:PD):List CV:=[penV p]
abbrev jnn (p:PD):Prop×Res:=(True,.ret (jcp (jeU p)))
noncomputable def sp_rblank:Spec:=spOf (α:=PD) (fun p=>jnm p) fun p=>jnn p
theorem jeV (p:PD):sp_rblank (jnm p)=some (jnn p):=jak _ injS p
theorem jvq:Alias Tryz.prog E0 92 sp_rblank:=Alias.of fun p hG=>TF.intro (V:=(VV [] GOk.nil 7 0)) jhe rfl rfl (by
 dsimp only[jnm,jnn]at hG ⊢
 repeat' first|simp only[SA,seval,rdB,List.drop_replicate]|refine tT ?_|refine Cos.intro [] [] rfl ?_|refine And.intro ?_ ?_|exact tC|(refine tI ?_;intro hyp)|intro hyp0|omega
 all_goals rfl)
theorem jvr:Fresh Tryz.prog E0 92 sp_rblank:=Alias.fresh jvq (fun x=>rfl)
abbrev jvs (c:CD):List CV:=[jcp c]
abbrev jvt (c:CD):Prop×Res:=(I32 c.rune,.ret (.bool (mayB c)))
noncomputable def sp_cmay:Spec:=spOf (α:=CD) (fun c=>jvs c) fun c=>jvt c
theorem jfk (c:CD):sp_cmay (jvs c)=some (jvt c):=jak _ injS c
theorem jAM:Alias Tryz.prog E0 124 sp_cmay:=Alias.of fun c hG=>TF.intro (V:=(VV [(129,conF [.any] sp_cpen),(59,conF [.any] sp_width)] (.cons (jaa jfL) (Fresh.soundF jAI) (.cons (jaa jer) (Fresh.soundF jnf) GOk.nil)) 29 0)) jis rfl rfl (by
 dsimp only[jvs,jvt]at hG ⊢
 repeat' first|simp only[SA,seval,rdB,jtf,jaK,List.drop_replicate]|refine tT ?_|refine Cos.intro [] [] rfl ?_|refine And.intro ?_ ?_|exact tC|(refine tI ?_;intro hyp)|intro hyp0|omega
 all_goals simp_all [mayB,ibeq])
theorem jAN:Fresh Tryz.prog E0 124 sp_cmay:=Alias.fresh jAM (fun x=>rfl)
abbrev jvu (c:CD):List CV:=[jcp c]
abbrev jvv (c:CD):Prop×Res:=(I32 c.rune,.ret (.bool (mayB c)))
noncomputable def sp_rmay:Spec:=spOf (α:=CD) (fun c=>jvu c) fun c=>jvv c
theorem jgA (c:CD):sp_rmay (jvu c)=some (jvv c):=jak _ injS c
theorem jAO:Alias Tryz.prog E0 110 sp_rmay:=Alias.of fun c hG=>TF.intro (V:=(VV [(50,conF [.any] sp_rpen),(46,conF [.any] sp_r7width)] (.cons (jaa jdQ) (Fresh.soundF jnj) (.cons (jaa jfK) (Fresh.soundF jip) GOk.nil)) 38 0)) joN rfl rfl (by
 dsimp only[jvu,jvv]at hG ⊢
 repeat' first|simp only[SA,seval,rdB,jbj,jbT,List.drop_replicate]|refine tT ?_|refine Cos.intro [] [] rfl ?_|refine And.intro ?_ ?_|exact tC|(refine tI ?_;intro hyp)|intro hyp0|omega
 simp only[mayB,ibeq])
theorem jAP:Fresh Tryz.prog E0 110 sp_rmay:=Alias.fresh jAO (fun x=>rfl)
abbrev jqd (L:List CD) (M:List CD):List CV:=[.vec .cell L,.vec .cell M]
abbrev jqe (L:List CD) (M:List CD):Prop×Res:=(L.length≤4611686018427387904∧M.length≤4611686018427387904,.ret (.bool (decide (L=M))))
noncomputable def sp_rsame:Spec:=spOf (α:=(List CD)×(List CD)) (fun⟨L,M⟩=>jqd L M) fun⟨L,M⟩=>jqe L M
theorem jqf (L:List CD) (M:List CD):sp_rsame (jqd L M)=some (jqe L M):=jak _ injS (L,M)
theorem jyz:Alias Tryz.prog E0 75 sp_rsame:=Alias.of fun⟨L,M⟩ hG=>TF.intro (V:=(VV [] GOk.nil 26 0)) jl2 rfl rfl (by
 dsimp only[jqd,jqe]at hG ⊢
 repeat' first|simp only[SA,seval,rdB,List.drop_replicate]|refine tT ?_|refine Cos.intro [] [] rfl ?_|refine And.intro ?_ ?_|exact tC|(refine tI ?_;intro hyp)|intro hyp0|omega
 ·exact (decide_eq_false fun e=>by subst e;omega).symm
 ·refine T.loop (fun k:Nat=>⟨[(0,.vec .cell L),(1,.vec .cell M),(12,.int .i64 L.length),(13,.int .i64 k)],[]⟩) (fun k=>k≤L.length∧∀j,j<k→L[j]?=M[j]?) (fun k=>L.length-k) 0 ⟨by omega,fun j hj=>by omega⟩ (Cos.intro [] [] rfl (by (simp only[SA,seval,rdB,List.drop_replicate]);first|done|(repeat' apply And.intro)<;>first|rfl|omega|simp)) (fun k ⟨hk,hall⟩=>?_)
  repeat' first|simp only[SA,seval,rdB,List.drop_replicate]|refine tT ?_|refine Cos.intro [] [] rfl ?_|exact⟨k+1,⟨by omega,jgh (by omega) (by omega) hyp hall⟩,by omega,(Cos.intro [] [] rfl (by (simp only[SA,seval,rdB,List.drop_replicate]);first|done|(repeat' apply And.intro)<;>first|rfl|omega|simp))⟩|refine And.intro ?_ ?_|exact tC|(refine tI ?_;intro hyp)|intro hyp0|omega
  ·exact (decide_eq_false fun e=>by subst e;exact hyp rfl).symm
  ·exact (decide_eq_true (jhK (by omega) (by omega) hall)).symm)
theorem jyA:Fresh Tryz.prog E0 75 sp_rsame:=Alias.fresh jyz (fun x=>rfl)
abbrev jqg (L:List CD) (M:List CD):List CV:=[.vec .cell L,.vec .cell M]
abbrev jqh (L:List CD) (M:List CD):Prop×Res:=(L.length≤4611686018427387904∧M.length≤4611686018427387904,.ret (.bool (decide (L=M))))
noncomputable def sp_equal:Spec:=spOf (α:=(List CD)×(List CD)) (fun⟨L,M⟩=>jqg L M) fun⟨L,M⟩=>jqh L M
theorem ja8 (L:List CD) (M:List CD):sp_equal (jqg L M)=some (jqh L M):=jak _ injS (L,M)
theorem jyB:Alias Tryz.prog E0 116 sp_equal:=Alias.of fun⟨L,M⟩ hG=>TF.intro (V:=(VV [] GOk.nil 26 0)) jce rfl rfl (by
 dsimp only[jqg,jqh]at hG ⊢
 repeat' first|simp only[SA,seval,rdB,List.drop_replicate]|refine tT ?_|refine Cos.intro [] [] rfl ?_|refine And.intro ?_ ?_|exact tC|(refine tI ?_;intro hyp)|intro hyp0|omega
 ·exact (decide_eq_false fun e=>by subst e;omega).symm
 ·refine T.loop (fun k:Nat=>⟨[(0,.vec .cell L),(1,.vec .cell M),(12,.int .i64 L.length),(13,.int .i64 k)],[]⟩) (fun k=>k≤L.length∧∀j,j<k→L[j]?=M[j]?) (fun k=>L.length-k) 0 ⟨by omega,fun j hj=>by omega⟩ (Cos.intro [] [] rfl (by (simp only[SA,seval,rdB,List.drop_replicate]);first|done|(repeat' apply And.intro)<;>first|rfl|omega|simp)) (fun k ⟨hk,hall⟩=>?_)
  repeat' first|simp only[SA,seval,rdB,List.drop_replicate]|refine tT ?_|refine Cos.intro [] [] rfl ?_|exact⟨k+1,⟨by omega,jgh (by omega) (by omega) hyp hall⟩,by omega,(Cos.intro [] [] rfl (by (simp only[SA,seval,rdB,List.drop_replicate]);first|done|(repeat' apply And.intro)<;>first|rfl|omega|simp))⟩|refine And.intro ?_ ?_|exact tC|(refine tI ?_;intro hyp)|intro hyp0|omega
  ·exact (decide_eq_false fun e=>by subst e;exact hyp rfl).symm
  ·exact (decide_eq_true (jhK (by omega) (by omega) hall)).symm)
theorem jr9:Fresh Tryz.prog E0 116 sp_equal:=Alias.fresh jyB (fun x=>rfl)
abbrev jqi (L:List CD):List CV:=[.vec .cell L]
abbrev jqj (L:List CD):Prop×Res:=(L.length≤1000000,.ret (.vec .cell L))
noncomputable def sp_rcopy:Spec:=spOf (α:=(List CD)) (fun L=>jqi L) fun L=>jqj L
theorem jbY (L:List CD):sp_rcopy (jqi L)=some (jqj L):=jak _ injS L
theorem jsa:Fresh Tryz.prog E0 72 sp_rcopy:=Fresh.of fun L hG=>TF.intro (V:=(VV [] GOk.nil 11 0)) jit rfl rfl (by
 dsimp only[jqi,jqj]at hG ⊢
 repeat' first|simp only[SA,seval,rdB,List.drop_replicate]|refine tT ?_|refine Cos.row (t:=.cell) rfl ?_ rfl (Nat.le_refl _)|refine And.intro ?_ ?_|exact tC|(refine tI ?_;intro hyp)|intro hyp0|omega)
abbrev jqk (L:List CD):List CV:=[.vec .cell L]
abbrev jql (L:List CD):Prop×Res:=(L.length≤1000000,.ret (.vec .cell L))
noncomputable def sp_clone:Spec:=spOf (α:=(List CD)) (fun L=>jqk L) fun L=>jql L
theorem jaf (L:List CD):sp_clone (jqk L)=some (jql L):=jak _ injS L
theorem jgB:Fresh Tryz.prog E0 24 sp_clone:=Fresh.of fun L hG=>TF.intro (V:=(VV [] GOk.nil 8 0)) ja7 rfl rfl (by
 dsimp only[jqk,jql]at hG ⊢
 repeat' first|simp only[SA,seval,rdB,List.drop_replicate]|refine tT ?_|refine Cos.row (t:=.cell) rfl ?_ rfl (Nat.le_refl _)|exact Cos.nilRow (t:=.cell) (by cases L<;>simp_all)|refine And.intro ?_ ?_|exact tC|(refine tI ?_;intro hyp)|intro hyp0|omega)
def cAt (L:List CD) (i:Nat):CD:=L.getD i default
def ji8 (L:List CD) (i:Nat):Bool:=decide (0<i)&&((cAt L (i-1)).wide==1)
def jgU (L:List CD) (i:Nat):Bool:=mayB (cAt L i)&&(ji8 L i==((cAt L i).wide==2))&&(!(ji8 L i) || penSame (cAt L (i-1)).pen (cAt L i).pen)
def jcN (L:List CD):Bool:=decide (1≤L.length)&&decide (L.length≤80)&&(List.range L.length).all (jgU L)&&((cAt L (L.length-1)).wide != 1)
def jhf (L:List CD) (i:Nat):Bool:=mayB (cAt L i) && !((cAt L i).wide==1&&(i==L.length-1 || (cAt L (i+1)).wide != 2 || !penSame (cAt L (i+1)).pen (cAt L i).pen)) && !((cAt L i).wide==2&&(i==0 || (cAt L (i-1)).wide != 1))
def jsb (L:List CD):Bool:=decide (1≤L.length)&&decide (L.length≤80)&&(List.range L.length).all (jhf L)
theorem jde (L:List CD) (i:Nat):jgU L i=true↔(mayB (cAt L i)=true∧((0<i∧(cAt L (i-1)).wide=1)↔(cAt L i).wide=2)∧(0<i→(cAt L (i-1)).wide=1→(cAt L (i-1)).pen=(cAt L i).pen)):=by
 unfold jgU ji8 penSame
 simp only[ibeq]
 generalize cAt L (i-1)=p
 generalize cAt L i=q
 by_cases h0:0<i<;>by_cases h1:p.wide=1<;>by_cases h2:q.wide=2<;>by_cases h3:p.pen=q.pen<;>simp[h0,h1,h2,h3]
theorem jl3 (L:List CD) (i:Nat):jhf L i=true↔(mayB (cAt L i)=true∧((cAt L i).wide=1→i≠L.length-1∧(cAt L (i+1)).wide=2∧(cAt L (i+1)).pen=(cAt L i).pen)∧((cAt L i).wide=2→i≠0∧(cAt L (i-1)).wide=1)):=by
 unfold jhf penSame
 simp only[ibeq,nbeq,bne]
 generalize cAt L (i-1)=p
 generalize cAt L (i+1)=n
 generalize cAt L i=q
 by_cases h0:i=0<;>by_cases h4:i=L.length-1<;>by_cases h1:q.wide=1<;>by_cases h2:q.wide=2<;>by_cases h3:n.pen=q.pen<;>by_cases h5:n.wide=2<;>by_cases h6:p.wide=1<;>simp[h0,h1,h2,h3,h4,h5,h6]
theorem jzE (L:List CD):jsb L=jcN L:=by
 rw[Bool.eq_iff_iff]
 unfold jsb jcN
 simp only[Bool.and_eq_true,decide_eq_true_eq,List.all_eq_true,List.mem_range,bne_iff_ne,ne_eq]
 constructor
 ·rintro⟨⟨h1,h2⟩,h⟩
  have H:=fun i hi=>(jl3 L i).1 (h i hi)
  refine⟨⟨⟨h1,h2⟩,fun i hi=>(jde L i).2 ⟨(H i hi).1,⟨fun⟨hp,hw⟩=>?_,fun hw=>?_⟩,fun hp hw=>?_⟩⟩,fun hw=>?_⟩
  ·have:=((H (i-1) (by omega)).2.1 hw).2.1
   rwa [show i-1+1=i by omega]at this
  ·have:=(H i hi).2.2 hw
   exact⟨by omega,this.2⟩
  ·have:=((H (i-1) (by omega)).2.1 hw).2.2
   rw[show i-1+1=i by omega]at this
   exact this.symm
  ·exact ((H (L.length-1) (by omega)).2.1 hw).1 rfl
 ·rintro⟨⟨⟨h1,h2⟩,h⟩,hl⟩
  have H:=fun i hi=>(jde L i).1 (h i hi)
  refine⟨⟨h1,h2⟩,fun i hi=>(jl3 L i).2 ⟨(H i hi).1,fun hw=>?_,fun hw=>?_⟩⟩
  ·have hne:i≠L.length-1:=fun e=>hl (e▸hw)
   have hn:=H (i+1) (by omega)
   rw[show i+1-1=i by omega]at hn
   exact⟨hne,hn.2.1.1 ⟨by omega,hw⟩,(hn.2.2 (by omega) hw).symm⟩
  ·have:=(H i hi).2.1.2 hw
   exact⟨by omega,this.2⟩
theorem jvw {L:List CD}{k:Nat}(hk:k<L.length) (h:jgU L k=false):false=jcN L:=by
 simp only[jcN,jbW hk h,Bool.and_false,Bool.false_and]
theorem jAQ {L:List CD}{k:Nat}(hk:k<L.length) (h:jhf L k=false):false=jcN L:=by
 rw[←jzE]
 simp only[jsb,jbW hk h,Bool.and_false]
theorem jew {f:Nat→Bool}{k:Nat}(h:f k=true) (hall:∀j,j<k→f j=true):∀j,j<k+1→f j=true:=fun j hj=>by
 by_cases e:j=k
 ·rw[e];exact h
 ·exact hall j (by omega)
theorem jdf {f:Nat→Bool}{n k:Nat}(hk:¬k<n) (hall:∀j,j<k→f j=true):(List.range n).all f=true:=List.all_eq_true.2 fun i hi=>hall i (by have:=List.mem_range.1 hi;omega)
abbrev CWs (L:List CD):Prop:=∀c∈L,I32 c.rune
abbrev jvx (L:List CD):List CV:=[.vec .cell L]
abbrev jvy (L:List CD):Prop×Res:=(CWs L∧L.length≤4611686018427387904,.ret (.bool (jcN L)))
noncomputable def sp_crow:Spec:=spOf (α:=(List CD)) (fun L=>jvx L) fun L=>jvy L
theorem jgC (L:List CD):sp_crow (jvx L)=some (jvy L):=jak _ injS L
theorem jAR:Alias Tryz.prog E0 97 sp_crow:=Alias.of fun L hG=>TF.intro (V:=(VV [(124,conF [.any] sp_cmay)] (.cons (jaa jis) (Fresh.soundF jAN) GOk.nil) 65 0)) jfM rfl rfl (by
 dsimp only[jvx,jvy]at hG ⊢
 obtain⟨hc,hl⟩:=hG
 repeat' first|simp only[SA,seval,rdB,jfk,List.drop_replicate]|refine tT ?_|refine Cos.intro [] [] rfl ?_|refine And.intro ?_ ?_|exact tC|(refine tI ?_;intro hyp)|intro hyp0|omega
 ·simp only[jcN,decide_eq_false (show ¬(1≤L.length∧L.length≤80) by omega),←Bool.decide_and]
  rfl
 refine T.loop (fun k:Nat=>⟨[(0,.vec .cell L),(14,.vec .cell L),(15,.int .i64 L.length),(16,.int .i64 k)],[]⟩) (fun k=>k≤L.length∧∀j,j<k→jgU L j=true) (fun k=>L.length-k) 0 ⟨by omega,fun j hj=>by omega⟩ (Cos.intro [] [] rfl (by (simp only[SA,seval,rdB,jfk,List.drop_replicate]);first|done|(repeat' apply And.intro)<;>first|rfl|omega|simp)) (fun k ⟨hk,hall⟩=>?_)
 have hck:k<L.length→I32 (L.getD k default).rune:=fun h=>hc _ (jhL h)
 repeat' first|simp only[SA,seval,rdB,jfk,List.drop_replicate]|refine tT ?_|refine Cos.intro [] [] rfl ?_|refine And.intro ?_ ?_|exact tC|(refine tI ?_;intro hyp)|intro hyp0|omega
 ·refine jvw (by omega:k<L.length) ?_
  simp only[jgU,ji8,cAt,penSame,ibeq]
  clear hall hc
  grind
 ·refine⟨k+1,⟨by omega,jew ?_ hall⟩,by omega,(Cos.intro [] [] rfl (by (simp only[SA,seval,rdB,jfk,List.drop_replicate]);first|done|(repeat' apply And.intro)<;>first|rfl|omega|simp))⟩
  simp only[jgU,ji8,cAt,penSame,ibeq]
  clear hall hc
  grind
 ·refine⟨k+1,⟨by omega,jew ?_ hall⟩,by omega,(Cos.intro [] [] rfl (by (simp only[SA,seval,rdB,jfk,List.drop_replicate]);first|done|(repeat' apply And.intro)<;>first|rfl|omega|simp))⟩
  simp only[jgU,ji8,cAt,penSame,ibeq]
  clear hall hc
  grind
 ·refine jvw (by omega:k<L.length) ?_
  simp only[jgU,ji8,cAt,penSame,ibeq]
  clear hall hc
  grind
 ·refine jvw (by omega:k<L.length) ?_
  simp only[jgU,ji8,cAt,penSame,ibeq]
  clear hall hc
  grind
 ·simp only[jcN,jdf (n:=L.length) (k:=k) (by omega) hall,cAt,bne,ibeq,Bool.and_true]
  rw[decide_eq_true (show 1≤L.length by omega),decide_eq_true (show L.length≤80 by omega)]
  rfl)
theorem jAS:Fresh Tryz.prog E0 97 sp_crow:=Alias.fresh jAR (fun x=>rfl)
abbrev jvz (L:List CD):List CV:=[.vec .cell L]
abbrev jvA (L:List CD):Prop×Res:=(CWs L∧L.length≤4611686018427387904,.ret (.bool (jcN L)))
noncomputable def sp_rrow:Spec:=spOf (α:=(List CD)) (fun L=>jvz L) fun L=>jvA L
theorem jbO (L:List CD):sp_rrow (jvz L)=some (jvA L):=jak _ injS L
theorem jAT : Alias Tryz.prog E0 76 sp_rrow := Alias.of fun L hG => TF.intro (V := (VV [(110, conF [.any] sp_rmay)] (.cons (jaa joN) (Fresh.soundF jAP) GOk.nil) 79 0)) jeT rfl rfl (by
  dsimp only [jvz, jvA] at hG ⊢
  obtain ⟨hc, hl⟩ := hG
  repeat' first | simp only [SA, seval, rdB, jgA, List.drop_replicate] | refine tT ?_ | refine Cos.intro [] [] rfl ?_ | refine And.intro ?_ ?_ | exact tC | (refine tI ?_; intro hyp) | intro hyp0 | omega
  · simp only [jcN, decide_eq_false (show ¬ (1 ≤ L.length ∧ L.length ≤ 80) by omega), ← Bool.decide_and]
    rfl
  refine T.loop (fun k : Nat => ⟨[(0, .vec .cell L), (3, .int .i64 k)], []⟩) (fun k => k ≤ L.length ∧ ∀ j, j < k → jhf L j = true) (fun k => L.length - k) 0 ⟨by omega, fun j hj => by omega⟩ (Cos.intro [] [] rfl (by (simp only [SA, seval, rdB, jgA, List.drop_replicate]); first | done | (repeat' apply And.intro) <;> first | rfl | omega | simp)) (fun k ⟨hk, hall⟩ => ?_)
  have hck : k < L.length → I32 (L.getD k default).rune := fun h => hc _ (jhL h)
  have hk1 : ((k : Int) = (L.length : Int) - 1) = (k = L.length - 1 ∧ 1 ≤ L.length) := propext (by omega)
  have hk0 : ((k : Int) = 0) = (k = 0) := propext (by omega)
  repeat' first | simp only [SA, seval, rdB, jgA, List.drop_replicate] | refine tT ?_ | refine Cos.intro [] [] rfl ?_ | refine And.intro ?_ ?_ | exact tC | (refine tI ?_; intro hyp) | intro hyp0 | omega
  all_goals first
    | (refine jAQ (by omega : k < L.length) ?_
       simp only [jhf, cAt, penSame, ibeq, nbeq, bne]
       clear hall hc
       grind)
    | (refine ⟨k + 1, ⟨by omega, jew ?_ hall⟩, by omega, (Cos.intro [] [] rfl (by (simp only [SA, seval, rdB, jgA, List.drop_replicate]); first | done | (repeat' apply And.intro) <;> first | rfl | omega | simp))⟩
       simp only [jhf, cAt, penSame, ibeq, nbeq, bne]
       clear hall hc
       grind)
    | (rw [← jzE]
       simp only [jsb, jdf (n := L.length) (k := k) (by omega) hall, Bool.and_true]
       rw [decide_eq_true (show 1 ≤ L.length by omega), decide_eq_true (show L.length ≤ 80 by omega)]
       rfl)
    | trace_state)
theorem jqm:Fresh Tryz.prog E0 76 sp_rrow:=Alias.fresh jAT (fun x=>rfl)
end
end Go.Proofs.YtcfkfgkndncanaaGreatDoor
