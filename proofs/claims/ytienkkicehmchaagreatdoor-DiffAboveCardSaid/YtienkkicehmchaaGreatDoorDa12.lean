/- Texts of this claim, merged by a program of this claim: FCell. -/
import Derived.Test.YtienkkicehmchaaGreatDoorDa11
import Derived.Test.YtienkkicehmchaaGreatDoorDa7
import Derived.Test.YtienkkicehmchaaGreatDoorDa8
namespace Go.Proofs.YtienkkicehmchaaGreatDoor
set_option linter.unusedVariables false
set_option linter.unusedSimpArgs false
section
open Go.RowKit
set_option maxRecDepth 100000
set_option maxHeartbeats 4000000
theorem Cos.nilRow {h:KH}{t:ETy}{L:List t.T}(e:L=[]):Cos 0 ⟨[(0,.nils)],h⟩ ⟨[(0,.slice 0 0 t.esz L.length L.length)],[.seq t L]⟩:=by
 subst e
 refine Cos.intro [h.length] [] (by simp[jdF,imgs,jaE]) ⟨?_,?_⟩
 ·simp[crsH,jhH]
 ·simp[crsF,Fr.get,crs]
def ja3 (c:Int):Bool:=decide (c≤256) || (decide (16777216≤c)&&decide (c≤33554431))
def penB (p:PD):Bool:=ja3 p.fg&&ja3 p.bg
def mayB (c:CD):Bool:=penB c.pen&&((c.wide==0&&Utf.width c.rune==1) || (c.wide==1&&Utf.width c.rune==2) || (c.wide==2&&c.rune==0))
def penSame (p q:PD):Bool:=decide (p=q)
theorem ibeq (a b:Int):(a==b)=decide (a=b):=by by_cases h:a=b<;>simp[h]
theorem nbeq (a b:Nat):(a==b)=decide (a=b):=by by_cases h:a=b<;>simp[h]
abbrev jkP (c:Int):List CV:=[.int .u32 c]
abbrev jkQ (c:Int):Prop×Res:=(True,.ret (.bool (ja3 c)))
noncomputable def sp_color:Spec:=spOf (α:=Int) (fun c=>jkP c) fun c=>jkQ c
theorem jau (c:Int):sp_color (jkP c)=some (jkQ c):=jad _ injS c
theorem jqJ:Alias Tryz.prog E0 158 sp_color:=Alias.of fun c hG=>TF.intro (V:=(VV [] GOk.nil 13 0)) jaF rfl rfl (by
 dsimp only[jkP,jkQ]at hG ⊢
 repeat' first|simp only[SA,seval,rdB,List.drop_replicate]|refine tT ?_|refine Cos.intro [] [] rfl ?_|refine And.intro ?_ ?_|exact tC|(refine tI ?_;intro hyp)|intro hyp0|omega
 rfl)
theorem jfY:Fresh Tryz.prog E0 158 sp_color:=Alias.fresh jqJ (fun x=>rfl)
abbrev jiA (c:Int):List CV:=[.int .u32 c]
abbrev jiB (c:Int):Prop×Res:=(True,.ret (.bool (ja3 c)))
noncomputable def sp_rcolor:Spec:=spOf (α:=Int) (fun c=>jiA c) fun c=>jiB c
theorem jjS (c:Int):sp_rcolor (jiA c)=some (jiB c):=jad _ injS c
theorem joc:Alias Tryz.prog E0 118 sp_rcolor:=Alias.of fun c hG=>TF.intro (V:=(VV [] GOk.nil 13 0)) jdJ rfl rfl (by
 dsimp only[jiA,jiB]at hG ⊢
 repeat' first|simp only[SA,seval,rdB,List.drop_replicate]|refine tT ?_|refine Cos.intro [] [] rfl ?_|refine And.intro ?_ ?_|exact tC|(refine tI ?_;intro hyp)|intro hyp0|omega
 rw[ja3,show decide (c<33554432)=decide (c≤33554431)from decide_eq_decide.2 (by omega)])
theorem jod:Fresh Tryz.prog E0 118 sp_rcolor:=Alias.fresh joc (fun x=>rfl)
abbrev joe (p:PD):List CV:=[penV p]
abbrev jof (p:PD):Prop×Res:=(True,.ret (.bool (penB p)))
noncomputable def sp_cpen:Spec:=spOf (α:=PD) (fun p=>joe p) fun p=>jof p
theorem jmL (p:PD):sp_cpen (joe p)=some (jof p):=jad _ injS p
theorem jsl:Alias Tryz.prog E0 186 sp_cpen:=Alias.of fun p hG=>TF.intro (V:=(VV [(158,conF [.any] sp_color)] (.cons (jaa jaF) (Fresh.soundF jfY) GOk.nil) 11 0)) jcR rfl rfl (by
 dsimp only[joe,jof]at hG ⊢
 repeat' first|simp only[SA,seval,rdB,jau,List.drop_replicate]|refine tT ?_|refine Cos.intro [] [] rfl ?_|refine And.intro ?_ ?_|exact tC|(refine tI ?_;intro hyp)|intro hyp0|omega
 rfl)
theorem jsm:Fresh Tryz.prog E0 186 sp_cpen:=Alias.fresh jsl (fun x=>rfl)
abbrev jog (p:PD):List CV:=[penV p]
abbrev joh (p:PD):Prop×Res:=(True,.ret (.bool (penB p)))
noncomputable def sp_rpen:Spec:=spOf (α:=PD) (fun p=>jog p) fun p=>joh p
theorem jmM (p:PD):sp_rpen (jog p)=some (joh p):=jad _ injS p
theorem jsn:Alias Tryz.prog E0 115 sp_rpen:=Alias.of fun p hG=>TF.intro (V:=(VV [(118,conF [.any] sp_rcolor)] (.cons (jaa jdJ) (Fresh.soundF jod) GOk.nil) 11 0)) jfC rfl rfl (by
 dsimp only[jog,joh]at hG ⊢
 repeat' first|simp only[SA,seval,rdB,jjS,List.drop_replicate]|refine tT ?_|refine Cos.intro [] [] rfl ?_|refine And.intro ?_ ?_|exact tC|(refine tI ?_;intro hyp)|intro hyp0|omega
 rfl)
theorem jso:Fresh Tryz.prog E0 115 sp_rpen:=Alias.fresh jsn (fun x=>rfl)
abbrev joi (c:CD):List CV:=[jaJ c]
abbrev joj (c:CD):Prop×Res:=(I32 c.rune,.ret (.bool (mayB c)))
noncomputable def sp_cmay:Spec:=spOf (α:=CD) (fun c=>joi c) fun c=>joj c
theorem jcz (c:CD):sp_cmay (joi c)=some (joj c):=jad _ injS c
theorem jsp:Alias Tryz.prog E0 156 sp_cmay:=Alias.of fun c hG=>TF.intro (V:=(VV [(186,conF [.any] sp_cpen),(95,conF [.any] sp_width)] (.cons (jaa jcR) (Fresh.soundF jsm) (.cons (jaa jcQ) (Fresh.soundF jlZ) GOk.nil)) 29 0)) je6 rfl rfl (by
 dsimp only[joi,joj]at hG ⊢
 repeat' first|simp only[SA,seval,rdB,jmL,jbo,List.drop_replicate]|refine tT ?_|refine Cos.intro [] [] rfl ?_|refine And.intro ?_ ?_|exact tC|(refine tI ?_;intro hyp)|intro hyp0|omega
 all_goals simp_all [mayB,ibeq])
theorem jsq:Fresh Tryz.prog E0 156 sp_cmay:=Alias.fresh jsp (fun x=>rfl)
abbrev jok (c:CD):List CV:=[jaJ c]
abbrev jol (c:CD):Prop×Res:=(I32 c.rune,.ret (.bool (mayB c)))
noncomputable def sp_rmay:Spec:=spOf (α:=CD) (fun c=>jok c) fun c=>jol c
theorem jdv (c:CD):sp_rmay (jok c)=some (jol c):=jad _ injS c
theorem jsr:Alias Tryz.prog E0 68 sp_rmay:=Alias.of fun c hG=>TF.intro (V:=(VV [(115,conF [.any] sp_rpen),(40,conF [.any] sp_r7width)] (.cons (jaa jfC) (Fresh.soundF jso) (.cons (jaa jd1) (Fresh.soundF jhM) GOk.nil)) 38 0)) jjQ rfl rfl (by
 dsimp only[jok,jol]at hG ⊢
 repeat' first|simp only[SA,seval,rdB,jmM,jaV,List.drop_replicate]|refine tT ?_|refine Cos.intro [] [] rfl ?_|refine And.intro ?_ ?_|exact tC|(refine tI ?_;intro hyp)|intro hyp0|omega
 simp only[mayB,ibeq])
theorem jss:Fresh Tryz.prog E0 68 sp_rmay:=Alias.fresh jsr (fun x=>rfl)
abbrev jkR (L:List CD):List CV:=[.vec .cell L]
abbrev jkS (L:List CD):Prop×Res:=(L.length≤1000000,.ret (.vec .cell L))
noncomputable def sp_rcopy:Spec:=spOf (α:=(List CD)) (fun L=>jkR L) fun L=>jkS L
theorem jcT (L:List CD):sp_rcopy (jkR L)=some (jkS L):=jad _ injS L
theorem jqK:Fresh Tryz.prog E0 84 sp_rcopy:=Fresh.of fun L hG=>TF.intro (V:=(VV [] GOk.nil 11 0)) jhP rfl rfl (by
 dsimp only[jkR,jkS]at hG ⊢
 repeat' first|simp only[SA,seval,rdB,List.drop_replicate]|refine tT ?_|refine Cos.row (t:=.cell) rfl ?_ rfl (Nat.le_refl _)|refine And.intro ?_ ?_|exact tC|(refine tI ?_;intro hyp)|intro hyp0|omega)
abbrev jkT (L:List CD):List CV:=[.vec .cell L]
abbrev jkU (L:List CD):Prop×Res:=(L.length≤1000000,.ret (.vec .cell L))
noncomputable def sp_clone:Spec:=spOf (α:=(List CD)) (fun L=>jkT L) fun L=>jkU L
theorem jb5 (L:List CD):sp_clone (jkT L)=some (jkU L):=jad _ injS L
theorem jqL:Fresh Tryz.prog E0 42 sp_clone:=Fresh.of fun L hG=>TF.intro (V:=(VV [] GOk.nil 8 0)) ja6 rfl rfl (by
 dsimp only[jkT,jkU]at hG ⊢
 repeat' first|simp only[SA,seval,rdB,List.drop_replicate]|refine tT ?_|refine Cos.row (t:=.cell) rfl ?_ rfl (Nat.le_refl _)|exact Cos.nilRow (t:=.cell) (by cases L<;>simp_all)|refine And.intro ?_ ?_|exact tC|(refine tI ?_;intro hyp)|intro hyp0|omega)
def cAt (L:List CD) (i:Nat):CD:=L.getD i default
def jfE (L:List CD) (i:Nat):Bool:=decide (0<i)&&((cAt L (i-1)).wide==1)
def jdK (L:List CD) (i:Nat):Bool:=mayB (cAt L i)&&(jfE L i==((cAt L i).wide==2))&&(!(jfE L i) || penSame (cAt L (i-1)).pen (cAt L i).pen)
def jbG (L:List CD):Bool:=decide (1≤L.length)&&decide (L.length≤80)&&(List.range L.length).all (jdK L)&&((cAt L (L.length-1)).wide != 1)
def jd4 (L:List CD) (i:Nat):Bool:=mayB (cAt L i) && !((cAt L i).wide==1&&(i==L.length-1 || (cAt L (i+1)).wide != 2 || !penSame (cAt L (i+1)).pen (cAt L i).pen)) && !((cAt L i).wide==2&&(i==0 || (cAt L (i-1)).wide != 1))
def jl0 (L:List CD):Bool:=decide (1≤L.length)&&decide (L.length≤80)&&(List.range L.length).all (jd4 L)
theorem jcA (L:List CD) (i:Nat):jdK L i=true↔(mayB (cAt L i)=true∧((0<i∧(cAt L (i-1)).wide=1)↔(cAt L i).wide=2)∧(0<i→(cAt L (i-1)).wide=1→(cAt L (i-1)).pen=(cAt L i).pen)):=by
 unfold jdK jfE penSame
 simp only[ibeq]
 generalize cAt L (i-1)=p
 generalize cAt L i=q
 by_cases h0:0<i<;>by_cases h1:p.wide=1<;>by_cases h2:q.wide=2<;>by_cases h3:p.pen=q.pen<;>simp[h0,h1,h2,h3]
theorem jhQ (L:List CD) (i:Nat):jd4 L i=true↔(mayB (cAt L i)=true∧((cAt L i).wide=1→i≠L.length-1∧(cAt L (i+1)).wide=2∧(cAt L (i+1)).pen=(cAt L i).pen)∧((cAt L i).wide=2→i≠0∧(cAt L (i-1)).wide=1)):=by
 unfold jd4 penSame
 simp only[ibeq,nbeq,bne]
 generalize cAt L (i-1)=p
 generalize cAt L (i+1)=n
 generalize cAt L i=q
 by_cases h0:i=0<;>by_cases h4:i=L.length-1<;>by_cases h1:q.wide=1<;>by_cases h2:q.wide=2<;>by_cases h3:n.pen=q.pen<;>by_cases h5:n.wide=2<;>by_cases h6:p.wide=1<;>simp[h0,h1,h2,h3,h4,h5,h6]
theorem jrr (L:List CD):jl0 L=jbG L:=by
 rw[Bool.eq_iff_iff]
 unfold jl0 jbG
 simp only[Bool.and_eq_true,decide_eq_true_eq,List.all_eq_true,List.mem_range,bne_iff_ne,ne_eq]
 constructor
 ·rintro⟨⟨h1,h2⟩,h⟩
  have H:=fun i hi=>(jhQ L i).1 (h i hi)
  refine⟨⟨⟨h1,h2⟩,fun i hi=>(jcA L i).2 ⟨(H i hi).1,⟨fun⟨hp,hw⟩=>?_,fun hw=>?_⟩,fun hp hw=>?_⟩⟩,fun hw=>?_⟩
  ·have:=((H (i-1) (by omega)).2.1 hw).2.1
   rwa [show i-1+1=i by omega]at this
  ·have:=(H i hi).2.2 hw
   exact⟨by omega,this.2⟩
  ·have:=((H (i-1) (by omega)).2.1 hw).2.2
   rw[show i-1+1=i by omega]at this
   exact this.symm
  ·exact ((H (L.length-1) (by omega)).2.1 hw).1 rfl
 ·rintro⟨⟨⟨h1,h2⟩,h⟩,hl⟩
  have H:=fun i hi=>(jcA L i).1 (h i hi)
  refine⟨⟨h1,h2⟩,fun i hi=>(jhQ L i).2 ⟨(H i hi).1,fun hw=>?_,fun hw=>?_⟩⟩
  ·have hne:i≠L.length-1:=fun e=>hl (e▸hw)
   have hn:=H (i+1) (by omega)
   rw[show i+1-1=i by omega]at hn
   exact⟨hne,hn.2.1.1 ⟨by omega,hw⟩,(hn.2.2 (by omega) hw).symm⟩
  ·have:=(H i hi).2.1.2 hw
   exact⟨by omega,this.2⟩
theorem jom {L:List CD}{k:Nat}(hk:k<L.length) (h:jdK L k=false):false=jbG L:=by
 simp only[jbG,jaD hk h,Bool.and_false,Bool.false_and]
theorem jst {L:List CD}{k:Nat}(hk:k<L.length) (h:jd4 L k=false):false=jbG L:=by
 rw[←jrr]
 simp only[jl0,jaD hk h,Bool.and_false]
theorem jb6 {f:Nat→Bool}{k:Nat}(h:f k=true) (hall:∀j,j<k→f j=true):∀j,j<k+1→f j=true:=fun j hj=>by
 by_cases e:j=k
 ·rw[e];exact h
 ·exact hall j (by omega)
theorem jbh {f:Nat→Bool}{n k:Nat}(hk:¬k<n) (hall:∀j,j<k→f j=true):(List.range n).all f=true:=List.all_eq_true.2 fun i hi=>hall i (by have:=List.mem_range.1 hi;omega)
abbrev CWs (L:List CD):Prop:=∀c∈L,I32 c.rune
abbrev jon (L:List CD):List CV:=[.vec .cell L]
abbrev joo (L:List CD):Prop×Res:=(CWs L∧L.length≤4611686018427387904,.ret (.bool (jbG L)))
noncomputable def sp_crow:Spec:=spOf (α:=(List CD)) (fun L=>jon L) fun L=>joo L
theorem jdw (L:List CD):sp_crow (jon L)=some (joo L):=jad _ injS L
theorem jsu:Alias Tryz.prog E0 126 sp_crow:=Alias.of fun L hG=>TF.intro (V:=(VV [(156,conF [.any] sp_cmay)] (.cons (jaa je6) (Fresh.soundF jsq) GOk.nil) 65 0)) jcS rfl rfl (by
 dsimp only[jon,joo]at hG ⊢
 obtain⟨hc,hl⟩:=hG
 repeat' first|simp only[SA,seval,rdB,jcz,List.drop_replicate]|refine tT ?_|refine Cos.intro [] [] rfl ?_|refine And.intro ?_ ?_|exact tC|(refine tI ?_;intro hyp)|intro hyp0|omega
 ·simp only[jbG,decide_eq_false (show ¬(1≤L.length∧L.length≤80) by omega),←Bool.decide_and]
  rfl
 refine T.loop (fun k:Nat=>⟨[(0,.vec .cell L),(14,.vec .cell L),(15,.int .i64 L.length),(16,.int .i64 k)],[]⟩) (fun k=>k≤L.length∧∀j,j<k→jdK L j=true) (fun k=>L.length-k) 0 ⟨by omega,fun j hj=>by omega⟩ (Cos.intro [] [] rfl (by (simp only[SA,seval,rdB,jcz,List.drop_replicate]);first|done|(repeat' apply And.intro)<;>first|rfl|omega|simp)) (fun k ⟨hk,hall⟩=>?_)
 have hck:k<L.length→I32 (L.getD k default).rune:=fun h=>hc _ (jlX h)
 repeat' first|simp only[SA,seval,rdB,jcz,List.drop_replicate]|refine tT ?_|refine Cos.intro [] [] rfl ?_|refine And.intro ?_ ?_|exact tC|(refine tI ?_;intro hyp)|intro hyp0|omega
 ·refine jom (by omega:k<L.length) ?_
  simp only[jdK,jfE,cAt,penSame,ibeq]
  clear hall hc
  grind
 ·refine⟨k+1,⟨by omega,jb6 ?_ hall⟩,by omega,(Cos.intro [] [] rfl (by (simp only[SA,seval,rdB,jcz,List.drop_replicate]);first|done|(repeat' apply And.intro)<;>first|rfl|omega|simp))⟩
  simp only[jdK,jfE,cAt,penSame,ibeq]
  clear hall hc
  grind
 ·refine⟨k+1,⟨by omega,jb6 ?_ hall⟩,by omega,(Cos.intro [] [] rfl (by (simp only[SA,seval,rdB,jcz,List.drop_replicate]);first|done|(repeat' apply And.intro)<;>first|rfl|omega|simp))⟩
  simp only[jdK,jfE,cAt,penSame,ibeq]
  clear hall hc
  grind
 ·refine jom (by omega:k<L.length) ?_
  simp only[jdK,jfE,cAt,penSame,ibeq]
  clear hall hc
  grind
 ·refine jom (by omega:k<L.length) ?_
  simp only[jdK,jfE,cAt,penSame,ibeq]
  clear hall hc
  grind
 ·simp only[jbG,jbh (n:=L.length) (k:=k) (by omega) hall,cAt,bne,ibeq,Bool.and_true]
  rw[decide_eq_true (show 1≤L.length by omega),decide_eq_true (show L.length≤80 by omega)]
  rfl)
theorem jsv:Fresh Tryz.prog E0 126 sp_crow:=Alias.fresh jsu (fun x=>rfl)
abbrev jop (L:List CD):List CV:=[.vec .cell L]
abbrev joq (L:List CD):Prop×Res:=(CWs L∧L.length≤4611686018427387904,.ret (.bool (jbG L)))
noncomputable def sp_rrow:Spec:=spOf (α:=(List CD)) (fun L=>jop L) fun L=>joq L
theorem jdx (L:List CD):sp_rrow (jop L)=some (joq L):=jad _ injS L
theorem jsw : Alias Tryz.prog E0 85 sp_rrow := Alias.of fun L hG => TF.intro (V := (VV [(68, conF [.any] sp_rmay)] (.cons (jaa jjQ) (Fresh.soundF jss) GOk.nil) 79 0)) jfD rfl rfl (by
  dsimp only [jop, joq] at hG ⊢
  obtain ⟨hc, hl⟩ := hG
  repeat' first | simp only [SA, seval, rdB, jdv, List.drop_replicate] | refine tT ?_ | refine Cos.intro [] [] rfl ?_ | refine And.intro ?_ ?_ | exact tC | (refine tI ?_; intro hyp) | intro hyp0 | omega
  · simp only [jbG, decide_eq_false (show ¬ (1 ≤ L.length ∧ L.length ≤ 80) by omega), ← Bool.decide_and]
    rfl
  refine T.loop (fun k : Nat => ⟨[(0, .vec .cell L), (3, .int .i64 k)], []⟩) (fun k => k ≤ L.length ∧ ∀ j, j < k → jd4 L j = true) (fun k => L.length - k) 0 ⟨by omega, fun j hj => by omega⟩ (Cos.intro [] [] rfl (by (simp only [SA, seval, rdB, jdv, List.drop_replicate]); first | done | (repeat' apply And.intro) <;> first | rfl | omega | simp)) (fun k ⟨hk, hall⟩ => ?_)
  have hck : k < L.length → I32 (L.getD k default).rune := fun h => hc _ (jlX h)
  have hk1 : ((k : Int) = (L.length : Int) - 1) = (k = L.length - 1 ∧ 1 ≤ L.length) := propext (by omega)
  have hk0 : ((k : Int) = 0) = (k = 0) := propext (by omega)
  repeat' first | simp only [SA, seval, rdB, jdv, List.drop_replicate] | refine tT ?_ | refine Cos.intro [] [] rfl ?_ | refine And.intro ?_ ?_ | exact tC | (refine tI ?_; intro hyp) | intro hyp0 | omega
  all_goals first
    | (refine jst (by omega : k < L.length) ?_
       simp only [jd4, cAt, penSame, ibeq, nbeq, bne]
       clear hall hc
       grind)
    | (refine ⟨k + 1, ⟨by omega, jb6 ?_ hall⟩, by omega, (Cos.intro [] [] rfl (by (simp only [SA, seval, rdB, jdv, List.drop_replicate]); first | done | (repeat' apply And.intro) <;> first | rfl | omega | simp))⟩
       simp only [jd4, cAt, penSame, ibeq, nbeq, bne]
       clear hall hc
       grind)
    | (rw [← jrr]
       simp only [jl0, jbh (n := L.length) (k := k) (by omega) hall, Bool.and_true]
       rw [decide_eq_true (show 1 ≤ L.length by omega), decide_eq_true (show L.length ≤ 80 by omega)]
       rfl)
    | trace_state)
theorem jsx:Fresh Tryz.prog E0 85 sp_rrow:=Alias.fresh jsw (fun x=>rfl)
end
end Go.Proofs.YtienkkicehmchaaGreatDoor
