/- Texts of this claim, merged by a program of this claim: FCell, LinkM. -/
import Derived.Test.YtienkkicehmchaaGreatDoorDo6
import Derived.Test.YtienkkicehmchaaGreatDoorDo7
import Derived.Test.YtienkkicehmchaaGreatDoorDo8
import Derived.Test.YtienkkicehmchaaGreatDoorDo9
namespace Go.Proofs.YtienkkicehmchaaGreatDoor
open And renaming intro→qaa
open Cos renaming intro→qab
open Bool renaming and_eq_true→qac,not_eq_true'→qaf,eq_iff_iff→qah,decide_and→qai,and_false→qal,and_true→qam
open List renaming prefix_append→qad,range→qae,all_eq_true→qag,prefix_rfl→qaj,mem_range→qak
noncomputable section
set_option linter.unusedVariables false
set_option linter.unusedSimpArgs false
section
open Go.RowKit
set_option maxRecDepth 100000
set_option maxHeartbeats 4000000
theorem Cos.nilRow {h:KH}{t:ETy}{L:List t.T}(e:L=[]):Cos 0 ⟨[(0,.nils)],h⟩ ⟨[(0,.slice 0 0 t.esz L.length L.length)],[.seq t L]⟩:=by
 subst e
 refine qab [h.length] [] (by simp[jir,imgs,jbm]) ⟨?_,?_⟩
 ·simp[crsH,jaM]
 ·simp[crsF,Fr.get,crs]
def jcQ (c:Int):Bool:=decide (c≤256) || (decide (16777216≤c)&&decide (c≤33554431))
def penB (p:PD):Bool:=jcQ p.fg&&jcQ p.bg
def mayB (c:CD):Bool:=penB c.pen&&((c.wide==0&&Utf.width c.rune==1) || (c.wide==1&&Utf.width c.rune==2) || (c.wide==2&&c.rune==0))
def jdL (p:PD):CD:=⟨32,0,0,p.bg,0,0⟩
def penSame (p q:PD):Bool:=decide (p=q)
def jfS (p q:CD):Bool:=decide (p=q)
theorem ibeq (a b:Int):(a==b)=decide (a=b):=by by_cases h:a=b<;>simp[h]
theorem nbeq (a b:Nat):(a==b)=decide (a=b):=by by_cases h:a=b<;>simp[h]
abbrev q_color (c:Int):QA:=([.int .u32 c],True,.ret (.bool (jcQ c)))
def sp_color:=spQ (u1 q_color)
theorem jeO:W1 (hA sp_color) q_color:=w1 (aA rfl)
theorem jwJ:Al 158 sp_color:=ofA (u1 q_color) fun c hG=>tfi .nil 0 jby (by
 dsimp only[u1,q_color]at hG ⊢
 have zc:=Hk.mk (@List.drop_replicate.{0})
 repeat' first|refine tU ?_|refine qab [] [] rfl ?_|refine qaa ?_ ?_|(refine tI ?_;intro hyp)|intro hyp0|exact tZ|omega
 rfl)
theorem ji2:Fre 158 sp_color:=ofF (u1 q_color) jwJ fun _=>rfl
abbrev q_rcolor (c:Int):QA:=([.int .u32 c],True,.ret (.bool (jcQ c)))
def sp_rcolor:=spQ (u1 q_rcolor)
theorem jnC:W1 (hA sp_rcolor) q_rcolor:=w1 (aA rfl)
theorem jtw:Al 118 sp_rcolor:=ofA (u1 q_rcolor) fun c hG=>tfi .nil 0 jgf (by
 dsimp only[u1,q_rcolor]at hG ⊢
 have zc:=Hk.mk (@List.drop_replicate.{0})
 repeat' first|refine tU ?_|refine qab [] [] rfl ?_|refine qaa ?_ ?_|(refine tI ?_;intro hyp)|intro hyp0|exact tZ|omega
 rw[jcQ,show decide (c<33554432)=decide (c≤33554431)from decide_eq_decide.2 (by omega)])
theorem jtx:Fre 118 sp_rcolor:=ofF (u1 q_rcolor) jtw fun _=>rfl
abbrev q_cpen (p:PD):QA:=([penV p],True,.ret (.bool (penB p)))
def sp_cpen:=spQ (u1 q_cpen)
theorem jrF:W1 (hA sp_cpen) q_cpen:=w1 (aA rfl)
theorem jy0:Al 186 sp_cpen:=ofA (u1 q_cpen) fun p hG=>tfi (.f [.any] jby ji2 .nil) 0 jhh (by
 dsimp only[u1,q_cpen]at hG ⊢
 have zc:=Hk.mk (qaa @jeO @List.drop_replicate.{0})
 repeat' first|refine tU ?_|refine qab [] [] rfl ?_|refine qaa ?_ ?_|(refine tI ?_;intro hyp)|intro hyp0|exact tZ|omega
 rfl)
theorem jy1:Fre 186 sp_cpen:=ofF (u1 q_cpen) jy0 fun _=>rfl
abbrev q_gpen (p:PD):QA:=([penV p],True,.ret (.bool (penB p)))
def sp_gpen:=spQ (u1 q_gpen)
theorem jrG:W1 (hA sp_gpen) q_gpen:=w1 (aA rfl)
theorem jy2:Al 206 sp_gpen:=ofA (u1 q_gpen) fun p hG=>tfi (.f [.any] jby ji2 .nil) 0 jhj (by
 dsimp only[u1,q_gpen]at hG ⊢
 have zc:=Hk.mk (qaa @jeO @List.drop_replicate.{0})
 repeat' first|refine tU ?_|refine qab [] [] rfl ?_|refine qaa ?_ ?_|(refine tI ?_;intro hyp)|intro hyp0|exact tZ|omega
 rfl)
theorem jy3:Fre 206 sp_gpen:=ofF (u1 q_gpen) jy2 fun _=>rfl
abbrev q_rpen (p:PD):QA:=([penV p],True,.ret (.bool (penB p)))
def sp_rpen:=spQ (u1 q_rpen)
theorem jrH:W1 (hA sp_rpen) q_rpen:=w1 (aA rfl)
theorem jy4:Al 115 sp_rpen:=ofA (u1 q_rpen) fun p hG=>tfi (.f [.any] jgf jtx .nil) 0 jiu (by
 dsimp only[u1,q_rpen]at hG ⊢
 have zc:=Hk.mk (qaa @jnC @List.drop_replicate.{0})
 repeat' first|refine tU ?_|refine qab [] [] rfl ?_|refine qaa ?_ ?_|(refine tI ?_;intro hyp)|intro hyp0|exact tZ|omega
 rfl)
theorem jy5:Fre 115 sp_rpen:=ofF (u1 q_rpen) jy4 fun _=>rfl
abbrev q_cblank (p:PD):QA:=([penV p],True,.ret (jbg (jdL p)))
def sp_cblank:=spQ (u1 q_cblank)
theorem jfp:W1 (hA sp_cblank) q_cblank:=w1 (aA rfl)
theorem jty:Al 203 sp_cblank:=ofA (u1 q_cblank) fun p hG=>tfi .nil 0 jdJ (by
 dsimp only[u1,q_cblank]at hG ⊢
 have zc:=Hk.mk (@List.drop_replicate.{0})
 repeat' first|refine tU ?_|refine qab [] [] rfl ?_|refine qaa ?_ ?_|(refine tI ?_;intro hyp)|intro hyp0|exact tZ|omega
 all_goals rfl)
theorem jjV:Fre 203 sp_cblank:=ofF (u1 q_cblank) jty fun _=>rfl
abbrev q_rblank (p:PD):QA:=([penV p],True,.ret (jbg (jdL p)))
def sp_rblank:=spQ (u1 q_rblank)
theorem jnD:W1 (hA sp_rblank) q_rblank:=w1 (aA rfl)
theorem jtz:Al 132 sp_rblank:=ofA (u1 q_rblank) fun p hG=>tfi .nil 0 jjU (by
 dsimp only[u1,q_rblank]at hG ⊢
 have zc:=Hk.mk (@List.drop_replicate.{0})
 repeat' first|refine tU ?_|refine qab [] [] rfl ?_|refine qaa ?_ ?_|(refine tI ?_;intro hyp)|intro hyp0|exact tZ|omega
 all_goals rfl)
theorem jtA:Fre 132 sp_rblank:=ofF (u1 q_rblank) jtz fun _=>rfl
abbrev q_cmay (c:CD):QA:=([jbg c],I32 c.rune,.ret (.bool (mayB c)))
def sp_cmay:=spQ (u1 q_cmay)
theorem jh1:W1 (hA sp_cmay) q_cmay:=w1 (aA rfl)
theorem jy6:Al 156 sp_cmay:=ofA (u1 q_cmay) fun c hG=>tfi (.f [.any] jhh jy1 (.f [.any] jeN jmw .nil)) 0 jfR (by
 dsimp only[u1,q_cmay]at hG ⊢
 have zc:=Hk.mk (qaa @jrF (qaa @jgz @List.drop_replicate.{0}))
 repeat' first|refine tU ?_|refine qab [] [] rfl ?_|refine qaa ?_ ?_|(refine tI ?_;intro hyp)|intro hyp0|exact tZ|omega
 all_goals simp_all [mayB,ibeq])
theorem jo1:Fre 156 sp_cmay:=ofF (u1 q_cmay) jy6 fun _=>rfl
abbrev q_rmay (c:CD):QA:=([jbg c],I32 c.rune,.ret (.bool (mayB c)))
def sp_rmay:=spQ (u1 q_rmay)
theorem jrI:W1 (hA sp_rmay) q_rmay:=w1 (aA rfl)
theorem jy7:Al 68 sp_rmay:=ofA (u1 q_rmay) fun c hG=>tfi (.f [.any] jiu jy5 (.f [.any] jgx jk8 .nil)) 0 jnB (by
 dsimp only[u1,q_rmay]at hG ⊢
 have zc:=Hk.mk (qaa @jrH (qaa @jhg @List.drop_replicate.{0}))
 repeat' first|refine tU ?_|refine qab [] [] rfl ?_|refine qaa ?_ ?_|(refine tI ?_;intro hyp)|intro hyp0|exact tZ|omega
 simp only[mayB,ibeq])
theorem jy8:Fre 68 sp_rmay:=ofF (u1 q_rmay) jy7 fun _=>rfl
abbrev q_rsame (L M:List CD):QA:=([.vec .cell L,.vec .cell M],L.length≤4611686018427387904∧M.length≤4611686018427387904,.ret (.bool (decide (L=M))))
def sp_rsame:=spQ (u2 q_rsame)
theorem jo2:W2 (hA sp_rsame) q_rsame:=w2 (aA rfl)
theorem jwK:Al 83 sp_rsame:=ofA (u2 q_rsame) fun⟨L,M⟩ hG=>tfi .nil 0 jlc (by
 dsimp only[u2,q_rsame]at hG ⊢
 have zc:=Hk.mk (@List.drop_replicate.{0})
 repeat' first|refine tU ?_|refine qab [] [] rfl ?_|refine qaa ?_ ?_|(refine tI ?_;intro hyp)|intro hyp0|exact tZ|omega
 ·exact (decide_eq_false fun e=>by subst e;omega).symm
 ·refine T.loop (fun k:Nat=>⟨[(0,.vec .cell L),(1,.vec .cell M),(12,.int .i64 L.length),(13,.int .i64 k)],[]⟩) (fun k=>k≤L.length∧∀j,j<k→L[j]?=M[j]?) (fun k=>L.length-k) 0 ⟨by omega,fun j hj=>by omega⟩ (qab [] [] rfl (by exact tG)) (fun k ⟨hk,hall⟩=>?_)
  repeat' first|refine tU ?_|refine qab [] [] rfl ?_|exact⟨k+1,⟨by omega,jee (by omega) (by omega) hyp hall⟩,by omega,(qab [] [] rfl (by exact tG))⟩|refine qaa ?_ ?_|(refine tI ?_;intro hyp)|intro hyp0|exact tZ|omega
  ·exact (decide_eq_false fun e=>by subst e;exact hyp rfl).symm
  ·exact (decide_eq_true (jfP (by omega) (by omega) hall)).symm)
theorem jwL:Fre 83 sp_rsame:=ofF (u2 q_rsame) jwK fun _=>rfl
abbrev q_equal (L M:List CD):QA:=([.vec .cell L,.vec .cell M],L.length≤4611686018427387904∧M.length≤4611686018427387904,.ret (.bool (decide (L=M))))
def sp_equal:=spQ (u2 q_equal)
theorem jgA:W2 (hA sp_equal) q_equal:=w2 (aA rfl)
theorem jwM:Al 161 sp_equal:=ofA (u2 q_equal) fun⟨L,M⟩ hG=>tfi .nil 0 jbh (by
 dsimp only[u2,q_equal]at hG ⊢
 have zc:=Hk.mk (@List.drop_replicate.{0})
 repeat' first|refine tU ?_|refine qab [] [] rfl ?_|refine qaa ?_ ?_|(refine tI ?_;intro hyp)|intro hyp0|exact tZ|omega
 ·exact (decide_eq_false fun e=>by subst e;omega).symm
 ·refine T.loop (fun k:Nat=>⟨[(0,.vec .cell L),(1,.vec .cell M),(12,.int .i64 L.length),(13,.int .i64 k)],[]⟩) (fun k=>k≤L.length∧∀j,j<k→L[j]?=M[j]?) (fun k=>L.length-k) 0 ⟨by omega,fun j hj=>by omega⟩ (qab [] [] rfl (by exact tG)) (fun k ⟨hk,hall⟩=>?_)
  repeat' first|refine tU ?_|refine qab [] [] rfl ?_|exact⟨k+1,⟨by omega,jee (by omega) (by omega) hyp hall⟩,by omega,(qab [] [] rfl (by exact tG))⟩|refine qaa ?_ ?_|(refine tI ?_;intro hyp)|intro hyp0|exact tZ|omega
  ·exact (decide_eq_false fun e=>by subst e;exact hyp rfl).symm
  ·exact (decide_eq_true (jfP (by omega) (by omega) hall)).symm)
theorem jmx:Fre 161 sp_equal:=ofF (u2 q_equal) jwM fun _=>rfl
abbrev q_rcopy (L:List CD):QA:=([.vec .cell L],L.length≤1000000,.ret (.vec .cell L))
def sp_rcopy:=spQ (u1 q_rcopy)
theorem jo3:W1 (hA sp_rcopy) q_rcopy:=w1 (aA rfl)
theorem jwN:Fre 84 sp_rcopy:=ofT (u1 q_rcopy) fun L hG=>tfi .nil 0 jlb (by
 dsimp only[u1,q_rcopy]at hG ⊢
 have zc:=Hk.mk (@List.drop_replicate.{0})
 repeat' first|refine tU ?_|refine Cos.row (t:=.cell) rfl ?_ rfl (Nat.le_refl _)|refine qaa ?_ ?_|(refine tI ?_;intro hyp)|intro hyp0|exact tZ|omega)
abbrev q_clone (L:List CD):QA:=([.vec .cell L],L.length≤1000000,.ret (.vec .cell L))
def sp_clone:=spQ (u1 q_clone)
theorem jbz:W1 (hA sp_clone) q_clone:=w1 (aA rfl)
theorem jdM:Fre 42 sp_clone:=ofT (u1 q_clone) fun L hG=>tfi .nil 0 jau (by
 dsimp only[u1,q_clone]at hG ⊢
 have zc:=Hk.mk (@List.drop_replicate.{0})
 repeat' first|refine tU ?_|refine Cos.row (t:=.cell) rfl ?_ rfl (Nat.le_refl _)|exact Cos.nilRow (t:=.cell) (by cases L<;>simp_all)|refine qaa ?_ ?_|(refine tI ?_;intro hyp)|intro hyp0|exact tZ|omega)
def cAt (L:List CD) (i:Nat):CD:=L.getD i default
def jiw (L:List CD) (i:Nat):Bool:=decide (0<i)&&((cAt L (i-1)).wide==1)
def jgg (L:List CD) (i:Nat):Bool:=mayB (cAt L i)&&(jiw L i==((cAt L i).wide==2))&&(!(jiw L i) || penSame (cAt L (i-1)).pen (cAt L i).pen)
def jcl (L:List CD):Bool:=decide (1≤L.length)&&decide (L.length≤80)&&(qae L.length).all (jgg L)&&((cAt L (L.length-1)).wide != 1)
def jgB (L:List CD) (i:Nat):Bool:=mayB (cAt L i) && !((cAt L i).wide==1&&(i==L.length-1 || (cAt L (i+1)).wide != 2 || !penSame (cAt L (i+1)).pen (cAt L i).pen)) && !((cAt L i).wide==2&&(i==0 || (cAt L (i-1)).wide != 1))
def jqh (L:List CD):Bool:=decide (1≤L.length)&&decide (L.length≤80)&&(qae L.length).all (jgB L)
theorem jcE (L:List CD) (i:Nat):jgg L i=true↔(mayB (cAt L i)=true∧((0<i∧(cAt L (i-1)).wide=1)↔(cAt L i).wide=2)∧(0<i→(cAt L (i-1)).wide=1→(cAt L (i-1)).pen=(cAt L i).pen)):=by
 unfold jgg jiw penSame
 simp only[ibeq]
 generalize cAt L (i-1)=p
 generalize cAt L i=q
 by_cases h0:0<i<;>by_cases h1:p.wide=1<;>by_cases h2:q.wide=2<;>by_cases h3:p.pen=q.pen<;>simp[h0,h1,h2,h3]
theorem jld (L:List CD) (i:Nat):jgB L i=true↔(mayB (cAt L i)=true∧((cAt L i).wide=1→i≠L.length-1∧(cAt L (i+1)).wide=2∧(cAt L (i+1)).pen=(cAt L i).pen)∧((cAt L i).wide=2→i≠0∧(cAt L (i-1)).wide=1)):=by
 unfold jgB penSame
 simp only[ibeq,nbeq,bne]
 generalize cAt L (i-1)=p
 generalize cAt L (i+1)=n
 generalize cAt L i=q
 by_cases h0:i=0<;>by_cases h4:i=L.length-1<;>by_cases h1:q.wide=1<;>by_cases h2:q.wide=2<;>by_cases h3:n.pen=q.pen<;>by_cases h5:n.wide=2<;>by_cases h6:p.wide=1<;>simp[h0,h1,h2,h3,h4,h5,h6]
theorem jx7 (L:List CD):jqh L=jcl L:=by
 rw[qah]
 unfold jqh jcl
 simp only[qac,decide_eq_true_eq,qag,qak,bne_iff_ne,ne_eq]
 constructor
 ·rintro⟨⟨h1,h2⟩,h⟩
  have H:=fun i hi=>(jld L i).1 (h i hi)
  refine⟨⟨⟨h1,h2⟩,fun i hi=>(jcE L i).2 ⟨(H i hi).1,⟨fun⟨hp,hw⟩=>?_,fun hw=>?_⟩,fun hp hw=>?_⟩⟩,fun hw=>?_⟩
  ·have:=((H (i-1) (by omega)).2.1 hw).2.1
   rwa [show i-1+1=i by omega]at this
  ·have:=(H i hi).2.2 hw
   exact⟨by omega,this.2⟩
  ·have:=((H (i-1) (by omega)).2.1 hw).2.2
   rw[show i-1+1=i by omega]at this
   exact this.symm
  ·exact ((H (L.length-1) (by omega)).2.1 hw).1 rfl
 ·rintro⟨⟨⟨h1,h2⟩,h⟩,hl⟩
  have H:=fun i hi=>(jcE L i).1 (h i hi)
  refine⟨⟨h1,h2⟩,fun i hi=>(jld L i).2 ⟨(H i hi).1,fun hw=>?_,fun hw=>?_⟩⟩
  ·have hne:i≠L.length-1:=fun e=>hl (e▸hw)
   have hn:=H (i+1) (by omega)
   rw[show i+1-1=i by omega]at hn
   exact⟨hne,hn.2.1.1 ⟨by omega,hw⟩,(hn.2.2 (by omega) hw).symm⟩
  ·have:=(H i hi).2.1.2 hw
   exact⟨by omega,this.2⟩
theorem jtB {L:List CD}{k:Nat}(hk:k<L.length) (h:jgg L k=false):false=jcl L:=by
 simp only[jcl,jbb hk h,qal,Bool.false_and]
theorem jy9 {L:List CD}{k:Nat}(hk:k<L.length) (h:jgB L k=false):false=jcl L:=by
 rw[←jx7]
 simp only[jqh,jbb hk h,qal]
theorem jdh {f:Nat→Bool}{k:Nat}(h:f k=true) (hall:∀j,j<k→f j=true):∀j,j<k+1→f j=true:=fun j hj=>by
 by_cases e:j=k
 ·rw[e];exact h
 ·exact hall j (by omega)
theorem jb9 {f:Nat→Bool}{n k:Nat}(hk:¬k<n) (hall:∀j,j<k→f j=true):(qae n).all f=true:=List.all_eq_true.2 fun i hi=>hall i (by have:=List.mem_range.1 hi;omega)
abbrev CWs (L:List CD):Prop:=∀c∈L,I32 c.rune
abbrev q_crow (L:List CD):QA:=([.vec .cell L],CWs L∧L.length≤4611686018427387904,.ret (.bool (jcl L)))
def sp_crow:=spQ (u1 q_crow)
theorem jrJ:W1 (hA sp_crow) q_crow:=w1 (aA rfl)
theorem jza:Al 126 sp_crow:=ofA (u1 q_crow) fun L hG=>tfi (.f [.any] jfR jo1 .nil) 0 jhi (by
 dsimp only[u1,q_crow]at hG ⊢
 have zc:=Hk.mk (qaa @jh1 @List.drop_replicate.{0})
 obtain⟨hc,hl⟩:=hG
 repeat' first|refine tU ?_|refine qab [] [] rfl ?_|refine qaa ?_ ?_|(refine tI ?_;intro hyp)|intro hyp0|exact tZ|omega
 ·simp only[jcl,decide_eq_false (show ¬(1≤L.length∧L.length≤80) by omega),←qai]
  rfl
 refine T.loop (fun k:Nat=>⟨[(0,.vec .cell L),(14,.vec .cell L),(15,.int .i64 L.length),(16,.int .i64 k)],[]⟩) (fun k=>k≤L.length∧∀j,j<k→jgg L j=true) (fun k=>L.length-k) 0 ⟨by omega,fun j hj=>by omega⟩ (qab [] [] rfl (by exact tG)) (fun k ⟨hk,hall⟩=>?_)
 have hck:k<L.length→I32 (L.getD k default).rune:=fun h=>hc _ (jaX h)
 repeat' first|refine tU ?_|refine qab [] [] rfl ?_|refine qaa ?_ ?_|(refine tI ?_;intro hyp)|intro hyp0|exact tZ|omega
 ·refine jtB (by omega:k<L.length) ?_
  simp only[jgg,jiw,cAt,penSame,ibeq]
  clear hall hc
  grind
 ·refine⟨k+1,⟨by omega,jdh ?_ hall⟩,by omega,(qab [] [] rfl (by exact tG))⟩
  simp only[jgg,jiw,cAt,penSame,ibeq]
  clear hall hc
  grind
 ·refine⟨k+1,⟨by omega,jdh ?_ hall⟩,by omega,(qab [] [] rfl (by exact tG))⟩
  simp only[jgg,jiw,cAt,penSame,ibeq]
  clear hall hc
  grind
 ·refine jtB (by omega:k<L.length) ?_
  simp only[jgg,jiw,cAt,penSame,ibeq]
  clear hall hc
  grind
 ·refine jtB (by omega:k<L.length) ?_
  simp only[jgg,jiw,cAt,penSame,ibeq]
  clear hall hc
  grind
 ·simp only[jcl,jb9 (n:=L.length) (k:=k) (by omega) hall,cAt,bne,ibeq,qam]
  rw[decide_eq_true (show 1≤L.length by omega),decide_eq_true (show L.length≤80 by omega)]
  rfl)
theorem jzb:Fre 126 sp_crow:=ofF (u1 q_crow) jza fun _=>rfl
abbrev q_rrow (L:List CD):QA:=([.vec .cell L],CWs L∧L.length≤4611686018427387904,.ret (.bool (jcl L)))
def sp_rrow:=spQ (u1 q_rrow)
theorem jrK:W1 (hA sp_rrow) q_rrow:=w1 (aA rfl)
theorem jzc : Al 85 sp_rrow := ofA (u1 q_rrow) fun L hG => tfi (.f [.any] jnB jy8 .nil) 0 jiv (by
  dsimp only [u1, q_rrow] at hG ⊢
  have zc := Hk.mk (qaa @jrI @List.drop_replicate.{0})
  obtain ⟨hc, hl⟩ := hG
  repeat' first | refine tU ?_ | refine qab [] [] rfl ?_ | refine qaa ?_ ?_ | (refine tI ?_; intro hyp) | intro hyp0 | exact tZ | omega
  · simp only [jcl, decide_eq_false (show ¬ (1 ≤ L.length ∧ L.length ≤ 80) by omega), ← qai]
    rfl
  refine T.loop (fun k : Nat => ⟨[(0, .vec .cell L), (3, .int .i64 k)], []⟩) (fun k => k ≤ L.length ∧ ∀ j, j < k → jgB L j = true) (fun k => L.length - k) 0 ⟨by omega, fun j hj => by omega⟩ (qab [] [] rfl (by exact tG)) (fun k ⟨hk, hall⟩ => ?_)
  have hck : k < L.length → I32 (L.getD k default).rune := fun h => hc _ (jaX h)
  have hk1 : ((k : Int) = (L.length : Int) - 1) = (k = L.length - 1 ∧ 1 ≤ L.length) := propext (by omega)
  have hk0 : ((k : Int) = 0) = (k = 0) := propext (by omega)
  repeat' first | refine tU ?_ | refine qab [] [] rfl ?_ | refine qaa ?_ ?_ | (refine tI ?_; intro hyp) | intro hyp0 | exact tZ | omega
  all_goals first
    | (refine jy9 (by omega : k < L.length) ?_
       simp only [jgB, cAt, penSame, ibeq, nbeq, bne]
       clear hall hc
       grind)
    | (refine ⟨k + 1, ⟨by omega, jdh ?_ hall⟩, by omega, (qab [] [] rfl (by exact tG))⟩
       simp only [jgB, cAt, penSame, ibeq, nbeq, bne]
       clear hall hc
       grind)
    | (rw [← jx7]
       simp only [jqh, jb9 (n := L.length) (k := k) (by omega) hall, qam]
       rw [decide_eq_true (show 1 ≤ L.length by omega), decide_eq_true (show L.length ≤ 80 by omega)]
       rfl)
    | trace_state)
theorem jzd:Fre 85 sp_rrow:=ofF (u1 q_rrow) jzc fun _=>rfl
end
section
open Go.RowKit
theorem je7 {L:List CD}{i:Nat}{c:CD}(h:L[i]?=some c):cAt L i=c:=by simp[cAt,List.getD_eq_getElem?_getD,h]
def CD.withLink (c:CD) (v:Int):CD:=⟨c.rune,c.wide,c.fg,c.bg,c.attrs,v⟩
def jdw (a b:ByteArray):Bool:=a.toList==b.toList
theorem ja9 {a b:ByteArray}:jdw a b=true↔a=b:=by
 unfold jdw
 rw[beq_iff_eq,ByteArray.toList_eq,ByteArray.toList_eq]
 constructor
 ·intro h
  obtain⟨x⟩:=a
  obtain⟨y⟩:=b
  simp only[Array.toList_inj]at h
  rw[h]
 ·intro h
  rw[h]
theorem jdi {a b:ByteArray}:jdw a b=false↔a≠b:=by
 rw[←Bool.not_eq_true,ja9]
theorem jef (a:ByteArray):jdw a a=true:=ja9.2 rfl
def jaq:List ByteArray→ByteArray→Int
 | [],_=>-1
 | x::l,s=>if jdw x s then 0 else let k:=jaq l s;if k<0 then -1 else k+1
theorem jeg:∀(l:List ByteArray) (s:ByteArray) (k:Nat),(∀(j:Nat) (x:ByteArray),j<k→l[j]?=some x→jdw x s=false)→∀x,l[k]?=some x→jdw x s=true→jaq l s=k
 | [],s,k,h,x,hx,hs=>by simp at hx
 | y::l,s,0,h,x,hx,hs=>by
  simp at hx
  subst hx
  simp[jaq,hs]
 | y::l,s,k+1,h,x,hx,hs=>by
  have h0:=h 0 y (by omega) rfl
  have ih:=jeg l s k (fun j x hj hx=>h (j+1) x (by omega) (by simpa using hx)) x (by simpa using hx) hs
  simp only[jaq,h0,ih]
  rw[if_neg (by simp),if_neg (by omega)]
  rfl
theorem jjW:∀(l:List ByteArray) (s:ByteArray),(∀(j:Nat) (x:ByteArray),l[j]?=some x→jdw x s=false)→jaq l s = -1
 | [],s,h=>rfl
 | y::l,s,h=>by
  have h0:=h 0 y rfl
  have ih:=jjW l s (fun j x hx=>h (j+1) x (by simpa using hx))
  simp[jaq,h0,ih]
theorem jcF:∀(l:List ByteArray) (s:ByteArray),-1≤jaq l s∧jaq l s<l.length
 | [],s=>by simp[jaq]
 | y::l,s=>by
  have ih:=jcF l s
  simp only[jaq,List.length_cons]
  split
  ·omega
  ·split<;>omega
theorem jc9 (l:List ByteArray) (s:ByteArray):0≤jaq l s↔s∈l:=by
 induction l with
 | nil=>simp[jaq]
 | cons y l ih =>
  simp only[jaq,List.mem_cons]
  cases h:jdw y s
  ·have:s≠y:=fun e=>by rw[e,jef]at h;cases h
   simp only[this,false_or,←ih]
   simp
   split<;>omega
  ·have:s=y:=(ja9.1 h).symm
   simp[this]
theorem jrL (l:List ByteArray) (s:ByteArray) (k:Nat) (h:jaq l s=k):l[k]?=some s:=by
 induction l generalizing k with
 | nil=>simp[jaq]at h
 | cons y l ih =>
  simp only[jaq]at h
  cases hs:jdw y s
  ·simp only[hs]at h
   simp at h
   split at h
   ·omega
   ·obtain⟨m,rfl⟩:∃m,k=m+1:=⟨k-1,by omega⟩
    rw[List.getElem?_cons_succ]
    exact ih m (by omega)
  ·simp only[hs]at h
   simp at h
   obtain rfl:k=0:=by omega
   rw[ja9.1 hs]
   rfl
def jca (s:ByteArray):Bool:=decide (1≤s.size)&&decide (s.size≤64)&&(qae s.size).all (fun i=>decide (33≤(s.data.toList.getD i 0).toNat)&&decide ((s.data.toList.getD i 0).toNat≤126))
def sAt (l:List ByteArray) (i:Nat):ByteArray:=l.getD i ⟨#[]⟩
theorem jjX {l:List ByteArray}{i:Nat}{s:ByteArray}(h:l[i]?=some s):sAt l i=s:=by simp[sAt,List.getD_eq_getElem?_getD,h]
def jgh (l:List ByteArray) (i:Nat):Bool:=jca (sAt l i) && !decide (0≤jaq (l.take i) (sAt l i))
def jeh (m:Nat):List CD→Option Int
 | L=>L.foldl (fun t c=>t.bind fun t=>if t+1<c.link∨(m:Int)<c.link then none else some (max t c.link)) (some 0)
theorem jb0 (m:Nat) (L:List CD) (c:CD):jeh m (L++[c])=(jeh m L).bind fun t=>if t+1<c.link∨(m:Int)<c.link then none else some (max t c.link):=by simp[jeh]
theorem jrM (m:Nat) (L M:List CD) (h:jeh m L=none):jeh m (L++M)=none:=by
 induction M generalizing L with
 | nil=>simpa using h
 | cons c M ih =>
  rw[show L++c::M=(L++[c])++M by simp]
  exact ih _ (by rw[jb0,h];rfl)
def jbu (L:List CD) (l:List ByteArray):Bool:=decide (l.length≤16)&&(qae l.length).all (jgh l)&&decide (jeh l.length L=some (l.length:Int))
theorem jav {α:Type}{l:List α}{k:Nat}{x:α}(h:l[k]?=some x):l.take (k+1)=l.take k++[x]:=by
 rw[List.take_add_one,h]
 rfl
def emptyS:ByteArray:=⟨#[]⟩
def jaw (l:List ByteArray) (v:Int):ByteArray:=if v=0∨(l.length:Int)<v then emptyS else if jca (sAt l (v-1).toNat) then sAt l (v-1).toNat else emptyS
theorem ji3 {s:ByteArray}(h:jca s=true):s≠emptyS:=by
 rintro rfl
 have:jca emptyS=false:=by decide
 rw[this]at h
 cases h
theorem jdN {α:Type}{P:List α→Prop}(h0:P []) (hs:∀L c,P L→P (L++[c])) (L:List α):P L:=by
 have h:∀M:List α,P M.reverse:=fun M=>by
  induction M with
  | nil=>exact h0
  | cons c M ih=>rw[List.reverse_cons];exact hs _ _ ih
 have:=h L.reverse
 rwa [List.reverse_reverse]at this
def jbA (l acc:List ByteArray) (c:CD):List ByteArray:=if jaw l c.link≠emptyS∧jaq acc (jaw l c.link)<0 then acc++[jaw l c.link] else acc
def jab (l:List ByteArray) (L:List CD):List ByteArray:=L.foldl (jbA l) []
def jcm (l m:List ByteArray) (v:Int):Int:=if jaw l v=emptyS then 0 else jaq m (jaw l v)+1
def jaH (l m:List ByteArray) (c:CD):CD:=c.withLink (jcm l m c.link)
theorem jaN (l:List ByteArray) (L:List CD) (c:CD):jab l (L++[c])=jbA l (jab l L) c:=by simp[jab]
theorem jrN (l acc:List ByteArray) (c:CD):acc <+: jbA l acc c:=by
 unfold jbA
 split
 ·exact qad _ _
 ·exact qaj
theorem jh2 (l:List ByteArray) (L M:List CD):jab l L <+: jab l (L++M):=by
 induction M using jdN with
 | h0=>rw[List.append_nil];exact qaj
 | hs M c ih =>
  rw[←List.append_assoc,jaN]
  exact ih.trans (jrN _ _ _)
theorem jh3 {m:List ByteArray}{s:ByteArray}:jaq m s<0↔s ∉ m:=by
 rw[←jc9]
 have:=jcF m s
 omega
theorem jrO {l acc:List ByteArray}{c:CD}(h:jaw l c.link≠emptyS):jaw l c.link∈jbA l acc c:=by
 unfold jbA
 by_cases hp:jaq acc (jaw l c.link)<0
 ·rw[if_pos ⟨h,hp⟩]
  simp
 ·rw[if_neg (fun e=>hp e.2)]
  exact (jc9 _ _).1 (by omega)
theorem jh4:∀{m m':List ByteArray}{s:ByteArray},m <+: m'→s∈m→jaq m' s=jaq m s
 | [],m',s,_,hs=>by cases hs
 | y::m,m',s,⟨t,ht⟩,hs=>by
  subst ht
  simp only[List.cons_append,jaq]
  cases he:jdw y s
  ·have h2:s∈m:=by
    rcases List.mem_cons.1 hs with e|e
    ·rw[←e,jef]at he;cases he
    ·exact e
   rw[jh4 (qad m t) h2]
  ·rfl
def jhk (l:List ByteArray):Prop:=∀(i:Nat) (s:ByteArray),l[i]?=some s→jaq l s=i
theorem jle {m:List ByteArray}{s:ByteArray}(h:jhk m) (hs:jaq m s<0):jhk (m++[s]):=fun i x hx=>by
 rcases Nat.lt_or_ge i m.length with hi|hi
 ·rw[List.getElem?_append_left hi]at hx
  rw[jh4 (qad m [s]) (List.mem_of_getElem? hx)]
  exact h i x hx
 ·rw[List.getElem?_append_right hi]at hx
  have hi0:i-m.length=0:=by
   rcases Nat.eq_zero_or_pos (i-m.length)with e|e
   ·exact e
   ·rw[List.getElem?_eq_none (by simp;omega)]at hx
    cases hx
  rw[hi0]at hx
  simp at hx
  subst hx
  obtain rfl:i=m.length:=by omega
  refine jeg _ _ _ (fun j y hj hy=>?_) s (by simp) (jef s)
  rw[List.getElem?_append_left hj]at hy
  rw[jdi]
  rintro rfl
  exact (jh3.1 hs) (List.mem_of_getElem? hy)
theorem jfq (l:List ByteArray) (L:List CD):jhk (jab l L):=by
 induction L using jdN with
 | h0=>intro i s h;simp[jab]at h
 | hs L c ih =>
  rw[jaN]
  unfold jbA
  split
  ·rename_i h
   exact jle ih h.2
  ·exact ih
theorem jhl {l:List ByteArray}{v:Int}(h:jaw l v≠emptyS):v≠0∧v≤l.length∧jca (jaw l v)=true∧jaw l v=sAt l (v-1).toNat:=by
 by_cases h0:v=0∨(l.length:Int)<v
 ·exact absurd (by unfold jaw;rw[if_pos h0]) h
 ·cases hb:jca (sAt l (v-1).toNat)
  ·exact absurd (by unfold jaw;rw[if_neg h0,hb];rfl) h
  ·have key:jaw l v=sAt l (v-1).toNat:=by unfold jaw;rw[if_neg h0,if_pos hb]
   exact⟨fun e=>h0 (.inl e),by omega,by rw[key];exact hb,key⟩
theorem jjY (l:List ByteArray) (L:List CD):∀s∈jab l L,jca s=true:=by
 induction L using jdN with
 | h0=>intro s h;simp[jab]at h
 | hs L c ih =>
  rw[jaN]
  unfold jbA
  split
  ·rename_i h
   intro s hs
   rcases List.mem_append.1 hs with e|e
   ·exact ih s e
   ·rw[List.mem_singleton.1 e]
    exact (jhl h.1).2.2.1
  ·exact ih
theorem jh5 (l:List ByteArray) (L:List CD):(jab l L).length≤L.length:=by
 induction L using jdN with
 | h0=>simp[jab]
 | hs L c ih =>
  rw[jaN]
  unfold jbA
  split
  ·simp;omega
  ·simp;omega
theorem jrP {l m m':List ByteArray}{v:Int}(h:m <+: m') (hv:jaw l v≠emptyS→jaw l v∈m):jcm l m' v=jcm l m v:=by
 unfold jcm
 by_cases he:jaw l v=emptyS
 ·rw[if_pos he,if_pos he]
 ·rw[if_neg he,if_neg he,jh4 h (hv he)]
theorem jtC (l m:List ByteArray) (v:Int):0≤jcm l m v∧jcm l m v≤m.length:=by
 unfold jcm
 have:=jcF m (jaw l v)
 split<;>omega
theorem jrQ {l:List ByteArray}{L:List CD}{t:Nat}{u:CD}(hu:L[t]?=some u) (h:jaw l u.link=emptyS):jab l (L.take (t+1))=jab l (L.take t)∧jaH l (jab l L) u=u.withLink 0:=by
 rw[jav hu,jaN]
 unfold jbA jaH jcm
 rw[if_neg (fun e=>e.1 h),if_pos h]
 exact⟨rfl,rfl⟩
theorem jlf {l:List ByteArray}{L:List CD}{t:Nat}{u:CD}{s:ByteArray}(hu:L[t]?=some u) (h:jaw l u.link=s) (hs:s≠emptyS) :
  jaH l (jab l L) u=u.withLink (jaq (jab l (L.take (t+1))) s+1):=by
 have hp:jab l (L.take (t+1)) <+: jab l L:=by
  have:=jh2 l (L.take (t+1)) (L.drop (t+1))
  rwa [List.take_append_drop]at this
 have hm:jaw l u.link∈jab l (L.take (t+1)):=by
  rw[jav hu,jaN]
  exact jrO (by rw[h];exact hs)
 unfold jaH
 rw[jrP hp (fun _=>hm)]
 unfold jcm
 rw[if_neg (by rw[h];exact hs),h]
theorem jtD {l:List ByteArray}{L:List CD}{t:Nat}{u:CD}{s:ByteArray}(hu:L[t]?=some u) (h:jaw l u.link=s) (hs:s≠emptyS) (hp:¬jaq (jab l (L.take t)) s<0) :
  jab l (L.take (t+1))=jab l (L.take t)∧jaH l (jab l L) u=u.withLink (jaq (jab l (L.take t)) s+1):=by
 have e:jab l (L.take (t+1))=jab l (L.take t):=by
  rw[jav hu,jaN]
  unfold jbA
  rw[if_neg (fun e=>hp (by rw[←h];exact e.2))]
 exact⟨e,by rw[jlf hu h hs,e]⟩
theorem jtE {l:List ByteArray}{L:List CD}{t:Nat}{u:CD}{s:ByteArray}(hu:L[t]?=some u) (h:jaw l u.link=s) (hs:s≠emptyS) (hp:jaq (jab l (L.take t)) s<0) :
  jab l (L.take (t+1))=jab l (L.take t)++[s]∧jaH l (jab l L) u=u.withLink (((jab l (L.take t)).length:Int)+1):=by
 have e:jab l (L.take (t+1))=jab l (L.take t)++[s]:=by
  rw[jav hu,jaN]
  unfold jbA
  rw[if_pos ⟨by rw[h];exact hs,by rw[h];exact hp⟩,h]
 refine⟨e,?_⟩
 rw[jlf hu h hs,e,jle (jfq l (L.take t)) hp (jab l (L.take t)).length s (by simp)]
def jgC (L:List CD) (l:List ByteArray):Bool:=decide (l.length≤16)&&(qae L.length).all (fun i=>decide (jcm l (jab l L) (cAt L i).link=(cAt L i).link))&&decide (jab l L=l)
theorem jtF {l:List ByteArray}{i:Nat}{s:ByteArray}(h:l[i]?=some s) (hb:jca s=true):jaw l ((i:Int)+1)=s:=by
 have hi:i<l.length:=(List.getElem?_eq_some_iff.1 h).1
 unfold jaw
 rw[if_neg (by omega),show ((i:Int)+1-1).toNat=i by omega,jjX h,if_pos hb]
theorem jhm {l:List ByteArray}(h:jhk l){i t:Nat}{s:ByteArray}(hi:l[i]?=some s):s∈l.take t↔i<t:=by
 constructor
 ·intro hm
  obtain⟨j,hj⟩:=List.getElem?_of_mem hm
  have hjt:j<t:=by
   have:=(List.getElem?_eq_some_iff.1 hj).1
   simp at this
   omega
  rw[List.getElem?_take_of_lt hjt]at hj
  have h1:=h j s hj
  have h2:=h i s hi
  omega
 ·intro hlt
  refine List.mem_of_getElem? (i:=i) ?_
  rw[List.getElem?_take_of_lt hlt]
  exact hi
theorem ji4 {m:Nat}{L:List CD}{t:Int}(h:jeh m L=some t):∀c∈L,c.link≤m:=by
 induction L using jdN generalizing t with
 | h0=>intro c hc;cases hc
 | hs L c ih =>
  rw[jb0]at h
  cases ht:jeh m L with
  | none=>rw[ht]at h;cases h
  | some t0 =>
   rw[ht]at h
   simp only[Option.bind_some]at h
   split at h
   ·cases h
   ·rename_i hn
    intro x hx
    rcases List.mem_append.1 hx with e|e
    ·exact ih ht x e
    ·rw[List.mem_singleton.1 e]
     omega
theorem jtG {l:List ByteArray}(hl:∀(i:Nat) (s:ByteArray),l[i]?=some s→jca s=true) (ha:jhk l){M:List CD}{t:Int}(h0:∀q∈M,0≤q.link) (h:jeh l.length M=some t) :
  0≤t∧t≤l.length∧jab l M=l.take t.toNat:=by
 induction M using jdN generalizing t with
 | h0 =>
  have e:t=0:=by
   have:jeh l.length []=some 0:=rfl
   rw[this]at h
   exact (Option.some.inj h).symm
  subst e
  exact⟨by omega,by omega,rfl⟩
 | hs M c ih =>
  rw[jb0]at h
  cases ht:jeh l.length M with
  | none=>rw[ht]at h;cases h
  | some t0 =>
   rw[ht]at h
   simp only[Option.bind_some]at h
   obtain⟨i1,i2,i3⟩:=ih (fun q hq=>h0 q (List.mem_append_left _ hq)) ht
   have hc:=h0 c (by simp)
   split at h
   ·cases h
   ·rename_i hn
    have ht1:t=max t0 c.link:=(Option.some.inj h).symm
    refine⟨by omega,by omega,?_⟩
    rw[jaN,i3]
    unfold jbA
    by_cases hz:c.link=0
    ·rw[if_neg (fun e=>(jhl e.1).1 hz)]
     congr 1
     omega
    ·obtain⟨k,hk⟩:∃k:Nat,c.link=(k:Int)+1:=⟨(c.link-1).toNat,by omega⟩
     obtain⟨s,hs⟩:∃s,l[k]?=some s:=⟨_,List.getElem?_eq_getElem (by omega)⟩
     have hle:jaw l c.link=s:=by rw[hk];exact jtF hs (hl k s hs)
     have hne:s≠emptyS:=ji3 (hl k s hs)
     rw[hle]
     by_cases hlt:k<t0.toNat
     ·rw[if_neg (fun e=>(jh3.1 e.2) ((jhm ha hs).2 hlt))]
      congr 1
      omega
     ·have hk2:k=t0.toNat:=by omega
      rw[if_pos ⟨hne,jh3.2 (fun e=>hlt ((jhm ha hs).1 e))⟩,show t.toNat=k+1 by omega,jav hs,hk2]
theorem jtH {l:List ByteArray}{L:List CD}(heq:jab l L=l) (hc:∀c∈L,jcm l l c.link=c.link):∀M N:List CD,L=M++N→jeh l.length M=some ((jab l M).length:Int):=by
 have hl:∀(i:Nat) (s:ByteArray),l[i]?=some s→jca s=true:=fun i s h=>jjY l L s (by rw[heq];exact List.mem_of_getElem? h)
 have ha:jhk l:=by have:=jfq l L;rwa [heq]at this
 intro M
 induction M using jdN with
 | h0=>intro N h;rfl
 | hs M c ih =>
  intro N h
  have i1:=ih (c::N) (by rw[h];simp)
  have hcc:=hc c (by rw[h];simp)
  have hp:jab l M <+: l:=by
   have:=jh2 l M (c::N)
   rw[show M++c::N=L by rw[h];simp,heq]at this
   exact this
  have hp2:jab l (M++[c]) <+: l:=by
   have:=jh2 l (M++[c]) N
   rw[←h,heq]at this
   exact this
  have hpl:=hp.length_le
  have htk:jab l M=l.take (jab l M).length:=List.prefix_iff_eq_take.1 hp
  rw[jb0,i1,Option.bind_some,jaN]
  rw[jaN]at hp2
  unfold jcm at hcc
  by_cases he:jaw l c.link=emptyS
  ·have e1:jbA l (jab l M) c=jab l M:=by unfold jbA;exact if_neg (fun e=>e.1 he)
   rw[if_pos he]at hcc
   rw[e1,if_neg (by omega)]
   congr 1
   omega
  ·rw[if_neg he]at hcc
   obtain⟨a1,a2,a3,a4⟩:=jhl he
   have hlo:=jcF l (jaw l c.link)
   obtain⟨k,hk⟩:∃k:Nat,jaq l (jaw l c.link)=k:=⟨(jaq l (jaw l c.link)).toNat,by omega⟩
   have hs:=jrL l _ k hk
   by_cases hneg:jaq (jab l M) (jaw l c.link)<0
   ·have e1:jbA l (jab l M) c=jab l M++[jaw l c.link]:=by unfold jbA;exact if_pos ⟨he,hneg⟩
    rw[e1]at hp2 ⊢
    have h1:l[(jab l M).length]?=some (jaw l c.link):=by
     obtain⟨t,ht⟩:=hp2
     have h2:(jab l M++[jaw l c.link]++t)[(jab l M).length]?=some (jaw l c.link):=by simp
     rwa [ht]at h2
    have h2:=ha _ _ h1
    have hll:=(List.getElem?_eq_some_iff.1 h1).1
    rw[if_neg (by omega),List.length_append]
    congr 1
    simp
    omega
   ·have e1:jbA l (jab l M) c=jab l M:=by unfold jbA;exact if_neg (fun e=>hneg e.2)
    rw[e1]
    have hm:jaw l c.link∈jab l M:=(jc9 _ _).1 (by omega)
    rw[htk]at hm
    have hlt:=(jhm ha hs).1 hm
    rw[if_neg (by omega)]
    congr 1
    omega
theorem jwO (L:List CD) (l:List ByteArray) (h0:∀q∈L,0≤q.link):jgC L l=jbu L l:=by
 have mem_at:∀i,i<L.length→cAt L i∈L:=fun i hi=>by
  rw[je7 (List.getElem?_eq_getElem hi)]
  exact List.getElem_mem hi
 rw[qah]
 unfold jgC jbu
 simp only[qac,decide_eq_true_eq,qag,qak]
 constructor
 ·rintro⟨⟨h16,hc⟩,heq⟩
  have hl:∀(i:Nat) (s:ByteArray),l[i]?=some s→jca s=true:=fun i s h=>jjY l L s (by rw[heq];exact List.mem_of_getElem? h)
  have ha:jhk l:=by have:=jfq l L;rwa [heq]at this
  refine⟨⟨h16,fun i hi=>?_⟩,?_⟩
  ·have hg:=List.getElem?_eq_getElem hi
   unfold jgh
   rw[jjX hg,hl i _ hg]
   simp only[Bool.true_and,qaf,decide_eq_false_iff_not]
   rw[jc9,jhm ha hg]
   omega
  ·have:=jtH heq (fun c hcm=>by
    obtain⟨i,hi⟩:=List.getElem?_of_mem hcm
    have:=hc i (List.getElem?_eq_some_iff.1 hi).1
    rw[heq,je7 hi]at this
    exact this) L [] (by simp)
   rw[heq]at this
   exact this
 ·rintro⟨⟨h16,hall⟩,htop⟩
  have hl:∀(i:Nat) (s:ByteArray),l[i]?=some s→jca s=true:=fun i s h=>by
   have:=hall i (List.getElem?_eq_some_iff.1 h).1
   unfold jgh at this
   rw[jjX h]at this
   simp only[qac]at this
   exact this.1
  have ha:jhk l:=fun i s h=>by
   have hi:=(List.getElem?_eq_some_iff.1 h).1
   have:=hall i hi
   unfold jgh at this
   rw[jjX h]at this
   simp only[qac,qaf,decide_eq_false_iff_not]at this
   refine jeg l s i (fun j x hj hx=>?_) s h (jef s)
   rw[jdi]
   rintro rfl
   refine this.2 ((jc9 _ _).2 (List.mem_of_getElem? (i:=j) ?_))
   rw[List.getElem?_take_of_lt hj]
   exact hx
  obtain⟨_,_,hcan⟩:=jtG hl ha h0 htop
  have heq:jab l L=l:=by rw[hcan,Int.toNat_natCast,List.take_of_length_le (Nat.le_refl _)]
  refine⟨⟨h16,fun i hi=>?_⟩,heq⟩
  have hm:=mem_at i hi
  have h1:=h0 _ hm
  have h2:=ji4 htop _ hm
  rw[heq]
  unfold jcm
  by_cases hz:(cAt L i).link=0
  ·rw[if_pos (by unfold jaw;rw[if_pos (.inl hz)]),hz]
  ·obtain⟨k,hk⟩:∃k:Nat,(cAt L i).link=(k:Int)+1:=⟨((cAt L i).link-1).toNat,by omega⟩
   obtain⟨s,hs⟩:∃s,l[k]?=some s:=⟨_,List.getElem?_eq_getElem (by omega)⟩
   have hle:jaw l (cAt L i).link=s:=by rw[hk];exact jtF hs (hl k s hs)
   rw[hle,if_neg (ji3 (hl k s hs)),ha k s hs,hk]
end
end
end Go.Proofs.YtienkkicehmchaaGreatDoor
