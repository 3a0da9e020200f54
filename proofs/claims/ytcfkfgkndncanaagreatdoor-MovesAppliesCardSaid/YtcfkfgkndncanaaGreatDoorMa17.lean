/- Texts of this claim, merged by a program of this claim: FCell. -/
import Derived.Test.YtcfkfgkndncanaaGreatDoorMa13
import Derived.Test.YtcfkfgkndncanaaGreatDoorMa16
import Derived.Test.YtcfkfgkndncanaaGreatDoorMa6
namespace Go.Proofs.YtcfkfgkndncanaaGreatDoor
set_option linter.unusedVariables false
set_option linter.unusedSimpArgs false
section
open Go.RowKit
set_option maxRecDepth 100000
set_option maxHeartbeats 4000000
theorem Cos.nilRow {h:KH}{t:ETy}{L:List t.T}(e:L=[]):Cos 0 ⟨[(0,.nils)],h⟩ ⟨[(0,.slice 0 0 t.esz L.length L.length)],[.seq t L]⟩:=by
 subst e
 refine Cos.intro [h.length] [] (by simp[jgY,imgs,jcp]) ⟨?_,?_⟩
 ·simp[crsH,jcr]
 ·simp[crsF,Fr.get,crs]
def jg3 (c:Int):Bool:=decide (c≤256) || (decide (16777216≤c)&&decide (c≤33554431))
def penB (p:PD):Bool:=jg3 p.fg&&jg3 p.bg
def mayB (c:CD):Bool:=penB c.pen&&((c.wide==0&&Utf.width c.rune==1) || (c.wide==1&&Utf.width c.rune==2) || (c.wide==2&&c.rune==0))
def jer (p:PD):CD:=⟨32,0,0,p.bg,0,0⟩
def penSame (p q:PD):Bool:=decide (p=q)
theorem ibeq (a b:Int):(a==b)=decide (a=b):=by by_cases h:a=b<;>simp[h]
theorem nbeq (a b:Nat):(a==b)=decide (a=b):=by by_cases h:a=b<;>simp[h]
abbrev jqI (c:Int):List CV:=[.int .u32 c]
abbrev jqJ (c:Int):Prop×Res:=(True,.ret (.bool (jg3 c)))
noncomputable def sp_color:Spec:=spOf (α:=Int) (fun c=>jqI c) fun c=>jqJ c
theorem jes (c:Int):sp_color (jqI c)=some (jqJ c):=jaq _ injS c
theorem jx0:Alias Tryz.prog E0 127 sp_color:=Alias.of fun c hG=>TF.intro (V:=(VV [] GOk.nil 13 0)) jcO rfl rfl (by
 dsimp only[jqI,jqJ]at hG ⊢
 repeat' first|simp only[SA,seval,rdB,List.drop_replicate]|refine tT ?_|refine Cos.intro [] [] rfl ?_|refine And.intro ?_ ?_|exact tC|(refine tI ?_;intro hyp)|intro hyp0|omega
 rfl)
theorem jnz:Fresh Tryz.prog E0 127 sp_color:=Alias.fresh jx0 (fun x=>rfl)
abbrev jnA (c:Int):List CV:=[.int .u32 c]
abbrev jnB (c:Int):Prop×Res:=(True,.ret (.bool (jg3 c)))
noncomputable def sp_rcolor:Spec:=spOf (α:=Int) (fun c=>jnA c) fun c=>jnB c
theorem jao (c:Int):sp_rcolor (jnA c)=some (jnB c):=jaq _ injS c
theorem jvd:Alias Tryz.prog E0 74 sp_rcolor:=Alias.of fun c hG=>TF.intro (V:=(VV [] GOk.nil 13 0)) je1 rfl rfl (by
 dsimp only[jnA,jnB]at hG ⊢
 repeat' first|simp only[SA,seval,rdB,List.drop_replicate]|refine tT ?_|refine Cos.intro [] [] rfl ?_|refine And.intro ?_ ?_|exact tC|(refine tI ?_;intro hyp)|intro hyp0|omega
 rw[jg3,show decide (c<33554432)=decide (c≤33554431)from decide_eq_decide.2 (by omega)])
theorem jpq:Fresh Tryz.prog E0 74 sp_rcolor:=Alias.fresh jvd (fun x=>rfl)
abbrev jve (p:PD):List CV:=[penV p]
abbrev jvf (p:PD):Prop×Res:=(True,.ret (.bool (penB p)))
noncomputable def sp_cpen:Spec:=spOf (α:=PD) (fun p=>jve p) fun p=>jvf p
theorem jtg (p:PD):sp_cpen (jve p)=some (jvf p):=jaq _ injS p
theorem jzI:Alias Tryz.prog E0 129 sp_cpen:=Alias.of fun p hG=>TF.intro (V:=(VV [(127,conF [.any] sp_color)] (.cons (jaa jcO) (Fresh.soundF jnz) GOk.nil) 11 0)) jfF rfl rfl (by
 dsimp only[jve,jvf]at hG ⊢
 repeat' first|simp only[SA,seval,rdB,jes,List.drop_replicate]|refine tT ?_|refine Cos.intro [] [] rfl ?_|refine And.intro ?_ ?_|exact tC|(refine tI ?_;intro hyp)|intro hyp0|omega
 rfl)
theorem jzJ:Fresh Tryz.prog E0 129 sp_cpen:=Alias.fresh jzI (fun x=>rfl)
abbrev jvg (p:PD):List CV:=[penV p]
abbrev jvh (p:PD):Prop×Res:=(True,.ret (.bool (penB p)))
noncomputable def sp_gpen:Spec:=spOf (α:=PD) (fun p=>jvg p) fun p=>jvh p
theorem jth (p:PD):sp_gpen (jvg p)=some (jvh p):=jaq _ injS p
theorem jzK:Alias Tryz.prog E0 130 sp_gpen:=Alias.of fun p hG=>TF.intro (V:=(VV [(127,conF [.any] sp_color)] (.cons (jaa jcO) (Fresh.soundF jnz) GOk.nil) 11 0)) jfH rfl rfl (by
 dsimp only[jvg,jvh]at hG ⊢
 repeat' first|simp only[SA,seval,rdB,jes,List.drop_replicate]|refine tT ?_|refine Cos.intro [] [] rfl ?_|refine And.intro ?_ ?_|exact tC|(refine tI ?_;intro hyp)|intro hyp0|omega
 rfl)
theorem jzL:Fresh Tryz.prog E0 130 sp_gpen:=Alias.fresh jzK (fun x=>rfl)
abbrev jvi (p:PD):List CV:=[penV p]
abbrev jvj (p:PD):Prop×Res:=(True,.ret (.bool (penB p)))
noncomputable def sp_rpen:Spec:=spOf (α:=PD) (fun p=>jvi p) fun p=>jvj p
theorem jti (p:PD):sp_rpen (jvi p)=some (jvj p):=jaq _ injS p
theorem jzM:Alias Tryz.prog E0 50 sp_rpen:=Alias.of fun p hG=>TF.intro (V:=(VV [(74,conF [.any] sp_rcolor)] (.cons (jaa je1) (Fresh.soundF jpq) GOk.nil) 11 0)) jjN rfl rfl (by
 dsimp only[jvi,jvj]at hG ⊢
 repeat' first|simp only[SA,seval,rdB,jao,List.drop_replicate]|refine tT ?_|refine Cos.intro [] [] rfl ?_|refine And.intro ?_ ?_|exact tC|(refine tI ?_;intro hyp)|intro hyp0|omega
 rfl)
theorem jzN:Fresh Tryz.prog E0 50 sp_rpen:=Alias.fresh jzM (fun x=>rfl)
abbrev jnC (p:PD):List CV:=[penV p]
abbrev jnD (p:PD):Prop×Res:=(True,.ret (jcG (jer p)))
noncomputable def sp_cblank:Spec:=spOf (α:=PD) (fun p=>jnC p) fun p=>jnD p
theorem jbm (p:PD):sp_cblank (jnC p)=some (jnD p):=jaq _ injS p
theorem jvk:Alias Tryz.prog E0 126 sp_cblank:=Alias.of fun p hG=>TF.intro (V:=(VV [] GOk.nil 7 0)) jeN rfl rfl (by
 dsimp only[jnC,jnD]at hG ⊢
 repeat' first|simp only[SA,seval,rdB,List.drop_replicate]|refine tT ?_|refine Cos.intro [] [] rfl ?_|refine And.intro ?_ ?_|exact tC|(refine tI ?_;intro hyp)|intro hyp0|omega
 all_goals rfl)
theorem jpr:Fresh Tryz.prog E0 126 sp_cblank:=Alias.fresh jvk (fun x=>rfl)
abbrev jnE (p:PD):List CV:=[penV p]
abbrev jnF (p:PD):Prop×Res:=(True,.ret (jcG (jer p)))
noncomputable def sp_rblank:Spec:=spOf (α:=PD) (fun p=>jnE p) fun p=>jnF p
theorem jeO (p:PD):sp_rblank (jnE p)=some (jnF p):=jaq _ injS p
theorem jvl:Alias Tryz.prog E0 92 sp_rblank:=Alias.of fun p hG=>TF.intro (V:=(VV [] GOk.nil 7 0)) jhp rfl rfl (by
 dsimp only[jnE,jnF]at hG ⊢
 repeat' first|simp only[SA,seval,rdB,List.drop_replicate]|refine tT ?_|refine Cos.intro [] [] rfl ?_|refine And.intro ?_ ?_|exact tC|(refine tI ?_;intro hyp)|intro hyp0|omega
 all_goals rfl)
theorem jvm:Fresh Tryz.prog E0 92 sp_rblank:=Alias.fresh jvl (fun x=>rfl)
abbrev jvn (c:CD):List CV:=[jcG c]
abbrev jvo (c:CD):Prop×Res:=(I32 c.rune,.ret (.bool (mayB c)))
noncomputable def sp_cmay:Spec:=spOf (α:=CD) (fun c=>jvn c) fun c=>jvo c
theorem jfh (c:CD):sp_cmay (jvn c)=some (jvo c):=jaq _ injS c
theorem jzO:Alias Tryz.prog E0 124 sp_cmay:=Alias.of fun c hG=>TF.intro (V:=(VV [(129,conF [.any] sp_cpen),(59,conF [.any] sp_width)] (.cons (jaa jfF) (Fresh.soundF jzJ) (.cons (jaa jeo) (Fresh.soundF jny) GOk.nil)) 29 0)) jiJ rfl rfl (by
 dsimp only[jvn,jvo]at hG ⊢
 repeat' first|simp only[SA,seval,rdB,jtg,ja3,List.drop_replicate]|refine tT ?_|refine Cos.intro [] [] rfl ?_|refine And.intro ?_ ?_|exact tC|(refine tI ?_;intro hyp)|intro hyp0|omega
 all_goals simp_all [mayB,ibeq])
theorem jzP:Fresh Tryz.prog E0 124 sp_cmay:=Alias.fresh jzO (fun x=>rfl)
abbrev jvp (c:CD):List CV:=[jcG c]
abbrev jvq (c:CD):Prop×Res:=(I32 c.rune,.ret (.bool (mayB c)))
noncomputable def sp_rmay:Spec:=spOf (α:=CD) (fun c=>jvp c) fun c=>jvq c
theorem jgC (c:CD):sp_rmay (jvp c)=some (jvq c):=jaq _ injS c
theorem jzQ:Alias Tryz.prog E0 110 sp_rmay:=Alias.of fun c hG=>TF.intro (V:=(VV [(50,conF [.any] sp_rpen),(46,conF [.any] sp_r7width)] (.cons (jaa jjN) (Fresh.soundF jzN) (.cons (jaa jfE) (Fresh.soundF jiG) GOk.nil)) 38 0)) jpo rfl rfl (by
 dsimp only[jvp,jvq]at hG ⊢
 repeat' first|simp only[SA,seval,rdB,jti,jai,List.drop_replicate]|refine tT ?_|refine Cos.intro [] [] rfl ?_|refine And.intro ?_ ?_|exact tC|(refine tI ?_;intro hyp)|intro hyp0|omega
 simp only[mayB,ibeq])
theorem jzR:Fresh Tryz.prog E0 110 sp_rmay:=Alias.fresh jzQ (fun x=>rfl)
abbrev jqK (L:List CD) (M:List CD):List CV:=[.vec .cell L,.vec .cell M]
abbrev jqL (L:List CD) (M:List CD):Prop×Res:=(L.length≤4611686018427387904∧M.length≤4611686018427387904,.ret (.bool (decide (L=M))))
noncomputable def sp_rsame:Spec:=spOf (α:=(List CD)×(List CD)) (fun⟨L,M⟩=>jqK L M) fun⟨L,M⟩=>jqL L M
theorem jqM (L:List CD) (M:List CD):sp_rsame (jqK L M)=some (jqL L M):=jaq _ injS (L,M)
theorem jx1:Alias Tryz.prog E0 75 sp_rsame:=Alias.of fun⟨L,M⟩ hG=>TF.intro (V:=(VV [] GOk.nil 26 0)) jmy rfl rfl (by
 dsimp only[jqK,jqL]at hG ⊢
 repeat' first|simp only[SA,seval,rdB,List.drop_replicate]|refine tT ?_|refine Cos.intro [] [] rfl ?_|refine And.intro ?_ ?_|exact tC|(refine tI ?_;intro hyp)|intro hyp0|omega
 ·exact (decide_eq_false fun e=>by subst e;omega).symm
 ·refine T.loop (fun k:Nat=>⟨[(0,.vec .cell L),(1,.vec .cell M),(12,.int .i64 L.length),(13,.int .i64 k)],[]⟩) (fun k=>k≤L.length∧∀j,j<k→L[j]?=M[j]?) (fun k=>L.length-k) 0 ⟨by omega,fun j hj=>by omega⟩ (Cos.intro [] [] rfl (by (simp only[SA,seval,rdB,List.drop_replicate]);first|done|(repeat' apply And.intro)<;>first|rfl|omega|simp)) (fun k ⟨hk,hall⟩=>?_)
  repeat' first|simp only[SA,seval,rdB,List.drop_replicate]|refine tT ?_|refine Cos.intro [] [] rfl ?_|exact⟨k+1,⟨by omega,jhV (by omega) (by omega) hyp hall⟩,by omega,(Cos.intro [] [] rfl (by (simp only[SA,seval,rdB,List.drop_replicate]);first|done|(repeat' apply And.intro)<;>first|rfl|omega|simp))⟩|refine And.intro ?_ ?_|exact tC|(refine tI ?_;intro hyp)|intro hyp0|omega
  ·exact (decide_eq_false fun e=>by subst e;exact hyp rfl).symm
  ·exact (decide_eq_true (jj9 (by omega) (by omega) hall)).symm)
theorem jx2:Fresh Tryz.prog E0 75 sp_rsame:=Alias.fresh jx1 (fun x=>rfl)
abbrev jqN (L:List CD):List CV:=[.vec .cell L]
abbrev jqO (L:List CD):Prop×Res:=(L.length≤1000000,.ret (.vec .cell L))
noncomputable def sp_rcopy:Spec:=spOf (α:=(List CD)) (fun L=>jqN L) fun L=>jqO L
theorem jab (L:List CD):sp_rcopy (jqN L)=some (jqO L):=jaq _ injS L
theorem jh0:Fresh Tryz.prog E0 72 sp_rcopy:=Fresh.of fun L hG=>TF.intro (V:=(VV [] GOk.nil 11 0)) jee rfl rfl (by
 dsimp only[jqN,jqO]at hG ⊢
 repeat' first|simp only[SA,seval,rdB,List.drop_replicate]|refine tT ?_|refine Cos.row (t:=.cell) rfl ?_ rfl (Nat.le_refl _)|refine And.intro ?_ ?_|exact tC|(refine tI ?_;intro hyp)|intro hyp0|omega)
abbrev jqP (L:List CD):List CV:=[.vec .cell L]
abbrev jqQ (L:List CD):Prop×Res:=(L.length≤1000000,.ret (.vec .cell L))
noncomputable def sp_clone:Spec:=spOf (α:=(List CD)) (fun L=>jqP L) fun L=>jqQ L
theorem jaj (L:List CD):sp_clone (jqP L)=some (jqQ L):=jaq _ injS L
theorem jh1:Fresh Tryz.prog E0 24 sp_clone:=Fresh.of fun L hG=>TF.intro (V:=(VV [] GOk.nil 8 0)) jbF rfl rfl (by
 dsimp only[jqP,jqQ]at hG ⊢
 repeat' first|simp only[SA,seval,rdB,List.drop_replicate]|refine tT ?_|refine Cos.row (t:=.cell) rfl ?_ rfl (Nat.le_refl _)|exact Cos.nilRow (t:=.cell) (by cases L<;>simp_all)|refine And.intro ?_ ?_|exact tC|(refine tI ?_;intro hyp)|intro hyp0|omega)
def cAt (L:List CD) (i:Nat):CD:=L.getD i default
def jjP (L:List CD) (i:Nat):Bool:=decide (0<i)&&((cAt L (i-1)).wide==1)
def jg4 (L:List CD) (i:Nat):Bool:=mayB (cAt L i)&&(jjP L i==((cAt L i).wide==2))&&(!(jjP L i) || penSame (cAt L (i-1)).pen (cAt L i).pen)
def jdZ (L:List CD):Bool:=decide (1≤L.length)&&decide (L.length≤80)&&(List.range L.length).all (jg4 L)&&((cAt L (L.length-1)).wide != 1)
def jhr (L:List CD) (i:Nat):Bool:=mayB (cAt L i) && !((cAt L i).wide==1&&(i==L.length-1 || (cAt L (i+1)).wide != 2 || !penSame (cAt L (i+1)).pen (cAt L i).pen)) && !((cAt L i).wide==2&&(i==0 || (cAt L (i-1)).wide != 1))
def jsq (L:List CD):Bool:=decide (1≤L.length)&&decide (L.length≤80)&&(List.range L.length).all (jhr L)
theorem jfi (L:List CD) (i:Nat):jg4 L i=true↔(mayB (cAt L i)=true∧((0<i∧(cAt L (i-1)).wide=1)↔(cAt L i).wide=2)∧(0<i→(cAt L (i-1)).wide=1→(cAt L (i-1)).pen=(cAt L i).pen)):=by
 unfold jg4 jjP penSame
 simp only[ibeq]
 generalize cAt L (i-1)=p
 generalize cAt L i=q
 by_cases h0:0<i<;>by_cases h1:p.wide=1<;>by_cases h2:q.wide=2<;>by_cases h3:p.pen=q.pen<;>simp[h0,h1,h2,h3]
theorem jmz (L:List CD) (i:Nat):jhr L i=true↔(mayB (cAt L i)=true∧((cAt L i).wide=1→i≠L.length-1∧(cAt L (i+1)).wide=2∧(cAt L (i+1)).pen=(cAt L i).pen)∧((cAt L i).wide=2→i≠0∧(cAt L (i-1)).wide=1)):=by
 unfold jhr penSame
 simp only[ibeq,nbeq,bne]
 generalize cAt L (i-1)=p
 generalize cAt L (i+1)=n
 generalize cAt L i=q
 by_cases h0:i=0<;>by_cases h4:i=L.length-1<;>by_cases h1:q.wide=1<;>by_cases h2:q.wide=2<;>by_cases h3:n.pen=q.pen<;>by_cases h5:n.wide=2<;>by_cases h6:p.wide=1<;>simp[h0,h1,h2,h3,h4,h5,h6]
theorem jyM (L:List CD):jsq L=jdZ L:=by
 rw[Bool.eq_iff_iff]
 unfold jsq jdZ
 simp only[Bool.and_eq_true,decide_eq_true_eq,List.all_eq_true,List.mem_range,bne_iff_ne,ne_eq]
 constructor
 ·rintro⟨⟨h1,h2⟩,h⟩
  have H:=fun i hi=>(jmz L i).1 (h i hi)
  refine⟨⟨⟨h1,h2⟩,fun i hi=>(jfi L i).2 ⟨(H i hi).1,⟨fun⟨hp,hw⟩=>?_,fun hw=>?_⟩,fun hp hw=>?_⟩⟩,fun hw=>?_⟩
  ·have:=((H (i-1) (by omega)).2.1 hw).2.1
   rwa [show i-1+1=i by omega]at this
  ·have:=(H i hi).2.2 hw
   exact⟨by omega,this.2⟩
  ·have:=((H (i-1) (by omega)).2.1 hw).2.2
   rw[show i-1+1=i by omega]at this
   exact this.symm
  ·exact ((H (L.length-1) (by omega)).2.1 hw).1 rfl
 ·rintro⟨⟨⟨h1,h2⟩,h⟩,hl⟩
  have H:=fun i hi=>(jfi L i).1 (h i hi)
  refine⟨⟨h1,h2⟩,fun i hi=>(jmz L i).2 ⟨(H i hi).1,fun hw=>?_,fun hw=>?_⟩⟩
  ·have hne:i≠L.length-1:=fun e=>hl (e▸hw)
   have hn:=H (i+1) (by omega)
   rw[show i+1-1=i by omega]at hn
   exact⟨hne,hn.2.1.1 ⟨by omega,hw⟩,(hn.2.2 (by omega) hw).symm⟩
  ·have:=(H i hi).2.1.2 hw
   exact⟨by omega,this.2⟩
theorem jvr {L:List CD}{k:Nat}(hk:k<L.length) (h:jg4 L k=false):false=jdZ L:=by
 simp only[jdZ,jcj hk h,Bool.and_false,Bool.false_and]
theorem jzS {L:List CD}{k:Nat}(hk:k<L.length) (h:jhr L k=false):false=jdZ L:=by
 rw[←jyM]
 simp only[jsq,jcj hk h,Bool.and_false]
theorem jet {f:Nat→Bool}{k:Nat}(h:f k=true) (hall:∀j,j<k→f j=true):∀j,j<k+1→f j=true:=fun j hj=>by
 by_cases e:j=k
 ·rw[e];exact h
 ·exact hall j (by omega)
theorem jdl {f:Nat→Bool}{n k:Nat}(hk:¬k<n) (hall:∀j,j<k→f j=true):(List.range n).all f=true:=List.all_eq_true.2 fun i hi=>hall i (by have:=List.mem_range.1 hi;omega)
abbrev CWs (L:List CD):Prop:=∀c∈L,I32 c.rune
abbrev jvs (L:List CD):List CV:=[.vec .cell L]
abbrev jvt (L:List CD):Prop×Res:=(CWs L∧L.length≤4611686018427387904,.ret (.bool (jdZ L)))
noncomputable def sp_crow:Spec:=spOf (α:=(List CD)) (fun L=>jvs L) fun L=>jvt L
theorem jgD (L:List CD):sp_crow (jvs L)=some (jvt L):=jaq _ injS L
theorem jzT:Alias Tryz.prog E0 97 sp_crow:=Alias.of fun L hG=>TF.intro (V:=(VV [(124,conF [.any] sp_cmay)] (.cons (jaa jiJ) (Fresh.soundF jzP) GOk.nil) 65 0)) jfG rfl rfl (by
 dsimp only[jvs,jvt]at hG ⊢
 obtain⟨hc,hl⟩:=hG
 repeat' first|simp only[SA,seval,rdB,jfh,List.drop_replicate]|refine tT ?_|refine Cos.intro [] [] rfl ?_|refine And.intro ?_ ?_|exact tC|(refine tI ?_;intro hyp)|intro hyp0|omega
 ·simp only[jdZ,decide_eq_false (show ¬(1≤L.length∧L.length≤80) by omega),←Bool.decide_and]
  rfl
 refine T.loop (fun k:Nat=>⟨[(0,.vec .cell L),(14,.vec .cell L),(15,.int .i64 L.length),(16,.int .i64 k)],[]⟩) (fun k=>k≤L.length∧∀j,j<k→jg4 L j=true) (fun k=>L.length-k) 0 ⟨by omega,fun j hj=>by omega⟩ (Cos.intro [] [] rfl (by (simp only[SA,seval,rdB,jfh,List.drop_replicate]);first|done|(repeat' apply And.intro)<;>first|rfl|omega|simp)) (fun k ⟨hk,hall⟩=>?_)
 have hck:k<L.length→I32 (L.getD k default).rune:=fun h=>hc _ (jed h)
 repeat' first|simp only[SA,seval,rdB,jfh,List.drop_replicate]|refine tT ?_|refine Cos.intro [] [] rfl ?_|refine And.intro ?_ ?_|exact tC|(refine tI ?_;intro hyp)|intro hyp0|omega
 ·refine jvr (by omega:k<L.length) ?_
  simp only[jg4,jjP,cAt,penSame,ibeq]
  clear hall hc
  grind
 ·refine⟨k+1,⟨by omega,jet ?_ hall⟩,by omega,(Cos.intro [] [] rfl (by (simp only[SA,seval,rdB,jfh,List.drop_replicate]);first|done|(repeat' apply And.intro)<;>first|rfl|omega|simp))⟩
  simp only[jg4,jjP,cAt,penSame,ibeq]
  clear hall hc
  grind
 ·refine⟨k+1,⟨by omega,jet ?_ hall⟩,by omega,(Cos.intro [] [] rfl (by (simp only[SA,seval,rdB,jfh,List.drop_replicate]);first|done|(repeat' apply And.intro)<;>first|rfl|omega|simp))⟩
  simp only[jg4,jjP,cAt,penSame,ibeq]
  clear hall hc
  grind
 ·refine jvr (by omega:k<L.length) ?_
  simp only[jg4,jjP,cAt,penSame,ibeq]
  clear hall hc
  grind
 ·refine jvr (by omega:k<L.length) ?_
  simp only[jg4,jjP,cAt,penSame,ibeq]
  clear hall hc
  grind
 ·simp only[jdZ,jdl (n:=L.length) (k:=k) (by omega) hall,cAt,bne,ibeq,Bool.and_true]
  rw[decide_eq_true (show 1≤L.length by omega),decide_eq_true (show L.length≤80 by omega)]
  rfl)
theorem jzU:Fresh Tryz.prog E0 97 sp_crow:=Alias.fresh jzT (fun x=>rfl)
abbrev jvu (L:List CD):List CV:=[.vec .cell L]
abbrev jvv (L:List CD):Prop×Res:=(CWs L∧L.length≤4611686018427387904,.ret (.bool (jdZ L)))
noncomputable def sp_rrow:Spec:=spOf (α:=(List CD)) (fun L=>jvu L) fun L=>jvv L
theorem jgE (L:List CD):sp_rrow (jvu L)=some (jvv L):=jaq _ injS L
theorem jzV : Alias Tryz.prog E0 76 sp_rrow := Alias.of fun L hG => TF.intro (V := (VV [(110, conF [.any] sp_rmay)] (.cons (jaa jpo) (Fresh.soundF jzR) GOk.nil) 79 0)) jjO rfl rfl (by
  dsimp only [jvu, jvv] at hG ⊢
  obtain ⟨hc, hl⟩ := hG
  repeat' first | simp only [SA, seval, rdB, jgC, List.drop_replicate] | refine tT ?_ | refine Cos.intro [] [] rfl ?_ | refine And.intro ?_ ?_ | exact tC | (refine tI ?_; intro hyp) | intro hyp0 | omega
  · simp only [jdZ, decide_eq_false (show ¬ (1 ≤ L.length ∧ L.length ≤ 80) by omega), ← Bool.decide_and]
    rfl
  refine T.loop (fun k : Nat => ⟨[(0, .vec .cell L), (3, .int .i64 k)], []⟩) (fun k => k ≤ L.length ∧ ∀ j, j < k → jhr L j = true) (fun k => L.length - k) 0 ⟨by omega, fun j hj => by omega⟩ (Cos.intro [] [] rfl (by (simp only [SA, seval, rdB, jgC, List.drop_replicate]); first | done | (repeat' apply And.intro) <;> first | rfl | omega | simp)) (fun k ⟨hk, hall⟩ => ?_)
  have hck : k < L.length → I32 (L.getD k default).rune := fun h => hc _ (jed h)
  have hk1 : ((k : Int) = (L.length : Int) - 1) = (k = L.length - 1 ∧ 1 ≤ L.length) := propext (by omega)
  have hk0 : ((k : Int) = 0) = (k = 0) := propext (by omega)
  repeat' first | simp only [SA, seval, rdB, jgC, List.drop_replicate] | refine tT ?_ | refine Cos.intro [] [] rfl ?_ | refine And.intro ?_ ?_ | exact tC | (refine tI ?_; intro hyp) | intro hyp0 | omega
  all_goals first
    | (refine jzS (by omega : k < L.length) ?_
       simp only [jhr, cAt, penSame, ibeq, nbeq, bne]
       clear hall hc
       grind)
    | (refine ⟨k + 1, ⟨by omega, jet ?_ hall⟩, by omega, (Cos.intro [] [] rfl (by (simp only [SA, seval, rdB, jgC, List.drop_replicate]); first | done | (repeat' apply And.intro) <;> first | rfl | omega | simp))⟩
       simp only [jhr, cAt, penSame, ibeq, nbeq, bne]
       clear hall hc
       grind)
    | (rw [← jyM]
       simp only [jsq, jdl (n := L.length) (k := k) (by omega) hall, Bool.and_true]
       rw [decide_eq_true (show 1 ≤ L.length by omega), decide_eq_true (show L.length ≤ 80 by omega)]
       rfl)
    | trace_state)
theorem jzW:Fresh Tryz.prog E0 76 sp_rrow:=Alias.fresh jzV (fun x=>rfl)
end
end Go.Proofs.YtcfkfgkndncanaaGreatDoor
