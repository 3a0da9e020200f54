/- Texts of this claim, merged by a program of this claim: FCell. -/
import Derived.Test.YtienkkicehmchaaGreatDoorDl11
import Derived.Test.YtienkkicehmchaaGreatDoorDl6
import Derived.Test.YtienkkicehmchaaGreatDoorDl7
import Derived.Test.YtienkkicehmchaaGreatDoorDl8
namespace Go.Proofs.YtienkkicehmchaaGreatDoor
open And renaming intro→qaa
open Cos renaming intro→qab
noncomputable section
set_option linter.unusedVariables false
set_option linter.unusedSimpArgs false
section
open Go.RowKit
set_option maxRecDepth 100000
set_option maxHeartbeats 4000000
theorem Cos.nilRow {h:KH}{t:ETy}{L:List t.T}(e:L=[]):Cos 0 ⟨[(0,.nils)],h⟩ ⟨[(0,.slice 0 0 t.esz L.length L.length)],[.seq t L]⟩:=by
 subst e
 refine qab [h.length] [] (by simp[jhu,imgs,ja8]) ⟨?_,?_⟩
 ·simp[crsH,jaE]
 ·simp[crsF,Fr.get,crs]
def jiZ (c:Int):Bool:=decide (c≤256) || (decide (16777216≤c)&&decide (c≤33554431))
def penB (p:PD):Bool:=jiZ p.fg&&jiZ p.bg
def mayB (c:CD):Bool:=penB c.pen&&((c.wide==0&&Utf.width c.rune==1) || (c.wide==1&&Utf.width c.rune==2) || (c.wide==2&&c.rune==0))
def jcv (p:PD):CD:=⟨32,0,0,p.bg,0,0⟩
def penSame (p q:PD):Bool:=decide (p=q)
def jdZ (p q:CD):Bool:=decide (p=q)
theorem ibeq (a b:Int):(a==b)=decide (a=b):=by by_cases h:a=b<;>simp[h]
theorem nbeq (a b:Nat):(a==b)=decide (a=b):=by by_cases h:a=b<;>simp[h]
abbrev q_color (c:Int):QA:=([.int .u32 c],True,.ret (.bool (jiZ c)))
def sp_color:=spQ (u1 q_color)
theorem ji0:W1 (hA sp_color) q_color:=w1 (aA rfl)
theorem juB:Al 158 sp_color:=ofA (u1 q_color) fun c hG=>tfi .nil 0 jcT (by
 dsimp only[u1,q_color]at hG ⊢
 have zc:=Hk.mk (@List.drop_replicate.{0})
 repeat' first|refine tU ?_|refine qab [] [] rfl ?_|refine qaa ?_ ?_|(refine tI ?_;intro hyp)|intro hyp0|exact tZ|omega
 rfl)
theorem jo2:Fre 158 sp_color:=ofF (u1 q_color) juB fun _=>rfl
abbrev q_rcolor (c:Int):QA:=([.int .u32 c],True,.ret (.bool (jiZ c)))
def sp_rcolor:=spQ (u1 q_rcolor)
theorem jmm:W1 (hA sp_rcolor) q_rcolor:=w1 (aA rfl)
theorem jrZ:Al 118 sp_rcolor:=ofA (u1 q_rcolor) fun c hG=>tfi .nil 0 jfq (by
 dsimp only[u1,q_rcolor]at hG ⊢
 have zc:=Hk.mk (@List.drop_replicate.{0})
 repeat' first|refine tU ?_|refine qab [] [] rfl ?_|refine qaa ?_ ?_|(refine tI ?_;intro hyp)|intro hyp0|exact tZ|omega
 rw[jiZ,show decide (c<33554432)=decide (c≤33554431)from decide_eq_decide.2 (by omega)])
theorem jr0:Fre 118 sp_rcolor:=ofF (u1 q_rcolor) jrZ fun _=>rfl
abbrev q_cpen (p:PD):QA:=([penV p],True,.ret (.bool (penB p)))
def sp_cpen:=spQ (u1 q_cpen)
theorem jqb:W1 (hA sp_cpen) q_cpen:=w1 (aA rfl)
theorem jwz:Al 186 sp_cpen:=ofA (u1 q_cpen) fun p hG=>tfi (.f [.any] jcT jo2 .nil) 0 jgh (by
 dsimp only[u1,q_cpen]at hG ⊢
 have zc:=Hk.mk (qaa @ji0 @List.drop_replicate.{0})
 repeat' first|refine tU ?_|refine qab [] [] rfl ?_|refine qaa ?_ ?_|(refine tI ?_;intro hyp)|intro hyp0|exact tZ|omega
 rfl)
theorem jwA:Fre 186 sp_cpen:=ofF (u1 q_cpen) jwz fun _=>rfl
abbrev q_gpen (p:PD):QA:=([penV p],True,.ret (.bool (penB p)))
def sp_gpen:=spQ (u1 q_gpen)
theorem jqc:W1 (hA sp_gpen) q_gpen:=w1 (aA rfl)
theorem jwB:Al 206 sp_gpen:=ofA (u1 q_gpen) fun p hG=>tfi (.f [.any] jcT jo2 .nil) 0 jgj (by
 dsimp only[u1,q_gpen]at hG ⊢
 have zc:=Hk.mk (qaa @ji0 @List.drop_replicate.{0})
 repeat' first|refine tU ?_|refine qab [] [] rfl ?_|refine qaa ?_ ?_|(refine tI ?_;intro hyp)|intro hyp0|exact tZ|omega
 rfl)
theorem jwC:Fre 206 sp_gpen:=ofF (u1 q_gpen) jwB fun _=>rfl
abbrev q_rpen (p:PD):QA:=([penV p],True,.ret (.bool (penB p)))
def sp_rpen:=spQ (u1 q_rpen)
theorem jqd:W1 (hA sp_rpen) q_rpen:=w1 (aA rfl)
theorem jwD:Al 115 sp_rpen:=ofA (u1 q_rpen) fun p hG=>tfi (.f [.any] jfq jr0 .nil) 0 jhy (by
 dsimp only[u1,q_rpen]at hG ⊢
 have zc:=Hk.mk (qaa @jmm @List.drop_replicate.{0})
 repeat' first|refine tU ?_|refine qab [] [] rfl ?_|refine qaa ?_ ?_|(refine tI ?_;intro hyp)|intro hyp0|exact tZ|omega
 rfl)
theorem jwE:Fre 115 sp_rpen:=ofF (u1 q_rpen) jwD fun _=>rfl
abbrev q_cblank (p:PD):QA:=([penV p],True,.ret (ja4 (jcv p)))
def sp_cblank:=spQ (u1 q_cblank)
theorem jeA:W1 (hA sp_cblank) q_cblank:=w1 (aA rfl)
theorem jr1:Al 203 sp_cblank:=ofA (u1 q_cblank) fun p hG=>tfi .nil 0 jdi (by
 dsimp only[u1,q_cblank]at hG ⊢
 have zc:=Hk.mk (@List.drop_replicate.{0})
 repeat' first|refine tU ?_|refine qab [] [] rfl ?_|refine qaa ?_ ?_|(refine tI ?_;intro hyp)|intro hyp0|exact tZ|omega
 all_goals rfl)
theorem ji1:Fre 203 sp_cblank:=ofF (u1 q_cblank) jr1 fun _=>rfl
abbrev q_rblank (p:PD):QA:=([penV p],True,.ret (ja4 (jcv p)))
def sp_rblank:=spQ (u1 q_rblank)
theorem jmn:W1 (hA sp_rblank) q_rblank:=w1 (aA rfl)
theorem jr2:Al 132 sp_rblank:=ofA (u1 q_rblank) fun p hG=>tfi .nil 0 jiY (by
 dsimp only[u1,q_rblank]at hG ⊢
 have zc:=Hk.mk (@List.drop_replicate.{0})
 repeat' first|refine tU ?_|refine qab [] [] rfl ?_|refine qaa ?_ ?_|(refine tI ?_;intro hyp)|intro hyp0|exact tZ|omega
 all_goals rfl)
theorem jr3:Fre 132 sp_rblank:=ofF (u1 q_rblank) jr2 fun _=>rfl
abbrev q_cmay (c:CD):QA:=([ja4 c],I32 c.rune,.ret (.bool (mayB c)))
def sp_cmay:=spQ (u1 q_cmay)
theorem jqe:W1 (hA sp_cmay) q_cmay:=w1 (aA rfl)
theorem jwF:Al 156 sp_cmay:=ofA (u1 q_cmay) fun c hG=>tfi (.f [.any] jgh jwA (.f [.any] jfE jo1 .nil)) 0 jkh (by
 dsimp only[u1,q_cmay]at hG ⊢
 have zc:=Hk.mk (qaa @jqb (qaa @jiX @List.drop_replicate.{0}))
 repeat' first|refine tU ?_|refine qab [] [] rfl ?_|refine qaa ?_ ?_|(refine tI ?_;intro hyp)|intro hyp0|exact tZ|omega
 all_goals simp_all [mayB,ibeq])
theorem jwG:Fre 156 sp_cmay:=ofF (u1 q_cmay) jwF fun _=>rfl
abbrev q_rmay (c:CD):QA:=([ja4 c],I32 c.rune,.ret (.bool (mayB c)))
def sp_rmay:=spQ (u1 q_rmay)
theorem jqf:W1 (hA sp_rmay) q_rmay:=w1 (aA rfl)
theorem jwH:Al 68 sp_rmay:=ofA (u1 q_rmay) fun c hG=>tfi (.f [.any] jhy jwE (.f [.any] jfD jke .nil)) 0 jml (by
 dsimp only[u1,q_rmay]at hG ⊢
 have zc:=Hk.mk (qaa @jqd (qaa @jgg @List.drop_replicate.{0}))
 repeat' first|refine tU ?_|refine qab [] [] rfl ?_|refine qaa ?_ ?_|(refine tI ?_;intro hyp)|intro hyp0|exact tZ|omega
 simp only[mayB,ibeq])
theorem jwI:Fre 68 sp_rmay:=ofF (u1 q_rmay) jwH fun _=>rfl
abbrev q_rsame (L M:List CD):QA:=([.vec .cell L,.vec .cell M],L.length≤4611686018427387904∧M.length≤4611686018427387904,.ret (.bool (decide (L=M))))
def sp_rsame:=spQ (u2 q_rsame)
theorem jfG:W2 (hA sp_rsame) q_rsame:=w2 (aA rfl)
theorem juC:Al 83 sp_rsame:=ofA (u2 q_rsame) fun⟨L,M⟩ hG=>tfi .nil 0 je4 (by
 dsimp only[u2,q_rsame]at hG ⊢
 have zc:=Hk.mk (@List.drop_replicate.{0})
 repeat' first|refine tU ?_|refine qab [] [] rfl ?_|refine qaa ?_ ?_|(refine tI ?_;intro hyp)|intro hyp0|exact tZ|omega
 ·exact (decide_eq_false fun e=>by subst e;omega).symm
 ·refine T.loop (fun k:Nat=>⟨[(0,.vec .cell L),(1,.vec .cell M),(12,.int .i64 L.length),(13,.int .i64 k)],[]⟩) (fun k=>k≤L.length∧∀j,j<k→L[j]?=M[j]?) (fun k=>L.length-k) 0 ⟨by omega,fun j hj=>by omega⟩ (qab [] [] rfl (by exact tG)) (fun k ⟨hk,hall⟩=>?_)
  repeat' first|refine tU ?_|refine qab [] [] rfl ?_|exact⟨k+1,⟨by omega,jdD (by omega) (by omega) hyp hall⟩,by omega,(qab [] [] rfl (by exact tG))⟩|refine qaa ?_ ?_|(refine tI ?_;intro hyp)|intro hyp0|exact tZ|omega
  ·exact (decide_eq_false fun e=>by subst e;exact hyp rfl).symm
  ·exact (decide_eq_true (je2 (by omega) (by omega) hall)).symm)
theorem jlp:Fre 83 sp_rsame:=ofF (u2 q_rsame) juC fun _=>rfl
abbrev q_equal (L M:List CD):QA:=([.vec .cell L,.vec .cell M],L.length≤4611686018427387904∧M.length≤4611686018427387904,.ret (.bool (decide (L=M))))
def sp_equal:=spQ (u2 q_equal)
theorem jfH:W2 (hA sp_equal) q_equal:=w2 (aA rfl)
theorem juD:Al 161 sp_equal:=ofA (u2 q_equal) fun⟨L,M⟩ hG=>tfi .nil 0 ja5 (by
 dsimp only[u2,q_equal]at hG ⊢
 have zc:=Hk.mk (@List.drop_replicate.{0})
 repeat' first|refine tU ?_|refine qab [] [] rfl ?_|refine qaa ?_ ?_|(refine tI ?_;intro hyp)|intro hyp0|exact tZ|omega
 ·exact (decide_eq_false fun e=>by subst e;omega).symm
 ·refine T.loop (fun k:Nat=>⟨[(0,.vec .cell L),(1,.vec .cell M),(12,.int .i64 L.length),(13,.int .i64 k)],[]⟩) (fun k=>k≤L.length∧∀j,j<k→L[j]?=M[j]?) (fun k=>L.length-k) 0 ⟨by omega,fun j hj=>by omega⟩ (qab [] [] rfl (by exact tG)) (fun k ⟨hk,hall⟩=>?_)
  repeat' first|refine tU ?_|refine qab [] [] rfl ?_|exact⟨k+1,⟨by omega,jdD (by omega) (by omega) hyp hall⟩,by omega,(qab [] [] rfl (by exact tG))⟩|refine qaa ?_ ?_|(refine tI ?_;intro hyp)|intro hyp0|exact tZ|omega
  ·exact (decide_eq_false fun e=>by subst e;exact hyp rfl).symm
  ·exact (decide_eq_true (je2 (by omega) (by omega) hall)).symm)
theorem jlq:Fre 161 sp_equal:=ofF (u2 q_equal) juD fun _=>rfl
abbrev q_rcopy (L:List CD):QA:=([.vec .cell L],L.length≤1000000,.ret (.vec .cell L))
def sp_rcopy:=spQ (u1 q_rcopy)
theorem jd0:W1 (hA sp_rcopy) q_rcopy:=w1 (aA rfl)
theorem jic:Fre 84 sp_rcopy:=ofT (u1 q_rcopy) fun L hG=>tfi .nil 0 jdE (by
 dsimp only[u1,q_rcopy]at hG ⊢
 have zc:=Hk.mk (@List.drop_replicate.{0})
 repeat' first|refine tU ?_|refine Cos.row (t:=.cell) rfl ?_ rfl (Nat.le_refl _)|refine qaa ?_ ?_|(refine tI ?_;intro hyp)|intro hyp0|exact tZ|omega)
abbrev q_clone (L:List CD):QA:=([.vec .cell L],L.length≤1000000,.ret (.vec .cell L))
def sp_clone:=spQ (u1 q_clone)
theorem jd1:W1 (hA sp_clone) q_clone:=w1 (aA rfl)
theorem jid:Fre 42 sp_clone:=ofT (u1 q_clone) fun L hG=>tfi .nil 0 jaT (by
 dsimp only[u1,q_clone]at hG ⊢
 have zc:=Hk.mk (@List.drop_replicate.{0})
 repeat' first|refine tU ?_|refine Cos.row (t:=.cell) rfl ?_ rfl (Nat.le_refl _)|exact Cos.nilRow (t:=.cell) (by cases L<;>simp_all)|refine qaa ?_ ?_|(refine tI ?_;intro hyp)|intro hyp0|exact tZ|omega)
def cAt (L:List CD) (i:Nat):CD:=L.getD i default
def jhA (L:List CD) (i:Nat):Bool:=decide (0<i)&&((cAt L (i-1)).wide==1)
def jfr (L:List CD) (i:Nat):Bool:=mayB (cAt L i)&&(jhA L i==((cAt L i).wide==2))&&(!(jhA L i) || penSame (cAt L (i-1)).pen (cAt L i).pen)
def jb0 (L:List CD):Bool:=decide (1≤L.length)&&decide (L.length≤80)&&(List.range L.length).all (jfr L)&&((cAt L (L.length-1)).wide != 1)
def jfI (L:List CD) (i:Nat):Bool:=mayB (cAt L i) && !((cAt L i).wide==1&&(i==L.length-1 || (cAt L (i+1)).wide != 2 || !penSame (cAt L (i+1)).pen (cAt L i).pen)) && !((cAt L i).wide==2&&(i==0 || (cAt L (i-1)).wide != 1))
def jo3 (L:List CD):Bool:=decide (1≤L.length)&&decide (L.length≤80)&&(List.range L.length).all (jfI L)
theorem jcg (L:List CD) (i:Nat):jfr L i=true↔(mayB (cAt L i)=true∧((0<i∧(cAt L (i-1)).wide=1)↔(cAt L i).wide=2)∧(0<i→(cAt L (i-1)).wide=1→(cAt L (i-1)).pen=(cAt L i).pen)):=by
 unfold jfr jhA penSame
 simp only[ibeq]
 generalize cAt L (i-1)=p
 generalize cAt L i=q
 by_cases h0:0<i<;>by_cases h1:p.wide=1<;>by_cases h2:q.wide=2<;>by_cases h3:p.pen=q.pen<;>simp[h0,h1,h2,h3]
theorem jki (L:List CD) (i:Nat):jfI L i=true↔(mayB (cAt L i)=true∧((cAt L i).wide=1→i≠L.length-1∧(cAt L (i+1)).wide=2∧(cAt L (i+1)).pen=(cAt L i).pen)∧((cAt L i).wide=2→i≠0∧(cAt L (i-1)).wide=1)):=by
 unfold jfI penSame
 simp only[ibeq,nbeq,bne]
 generalize cAt L (i-1)=p
 generalize cAt L (i+1)=n
 generalize cAt L i=q
 by_cases h0:i=0<;>by_cases h4:i=L.length-1<;>by_cases h1:q.wide=1<;>by_cases h2:q.wide=2<;>by_cases h3:n.pen=q.pen<;>by_cases h5:n.wide=2<;>by_cases h6:p.wide=1<;>simp[h0,h1,h2,h3,h4,h5,h6]
theorem jvI (L:List CD):jo3 L=jb0 L:=by
 rw[Bool.eq_iff_iff]
 unfold jo3 jb0
 simp only[Bool.and_eq_true,decide_eq_true_eq,List.all_eq_true,List.mem_range,bne_iff_ne,ne_eq]
 constructor
 ·rintro⟨⟨h1,h2⟩,h⟩
  have H:=fun i hi=>(jki L i).1 (h i hi)
  refine⟨⟨⟨h1,h2⟩,fun i hi=>(jcg L i).2 ⟨(H i hi).1,⟨fun⟨hp,hw⟩=>?_,fun hw=>?_⟩,fun hp hw=>?_⟩⟩,fun hw=>?_⟩
  ·have:=((H (i-1) (by omega)).2.1 hw).2.1
   rwa [show i-1+1=i by omega]at this
  ·have:=(H i hi).2.2 hw
   exact⟨by omega,this.2⟩
  ·have:=((H (i-1) (by omega)).2.1 hw).2.2
   rw[show i-1+1=i by omega]at this
   exact this.symm
  ·exact ((H (L.length-1) (by omega)).2.1 hw).1 rfl
 ·rintro⟨⟨⟨h1,h2⟩,h⟩,hl⟩
  have H:=fun i hi=>(jcg L i).1 (h i hi)
  refine⟨⟨h1,h2⟩,fun i hi=>(jki L i).2 ⟨(H i hi).1,fun hw=>?_,fun hw=>?_⟩⟩
  ·have hne:i≠L.length-1:=fun e=>hl (e▸hw)
   have hn:=H (i+1) (by omega)
   rw[show i+1-1=i by omega]at hn
   exact⟨hne,hn.2.1.1 ⟨by omega,hw⟩,(hn.2.2 (by omega) hw).symm⟩
  ·have:=(H i hi).2.1.2 hw
   exact⟨by omega,this.2⟩
theorem jr4 {L:List CD}{k:Nat}(hk:k<L.length) (h:jfr L k=false):false=jb0 L:=by
 simp only[jb0,ja2 hk h,Bool.and_false,Bool.false_and]
theorem jwJ {L:List CD}{k:Nat}(hk:k<L.length) (h:jfI L k=false):false=jb0 L:=by
 rw[←jvI]
 simp only[jo3,ja2 hk h,Bool.and_false]
theorem jcU {f:Nat→Bool}{k:Nat}(h:f k=true) (hall:∀j,j<k→f j=true):∀j,j<k+1→f j=true:=fun j hj=>by
 by_cases e:j=k
 ·rw[e];exact h
 ·exact hall j (by omega)
theorem jbN {f:Nat→Bool}{n k:Nat}(hk:¬k<n) (hall:∀j,j<k→f j=true):(List.range n).all f=true:=List.all_eq_true.2 fun i hi=>hall i (by have:=List.mem_range.1 hi;omega)
abbrev CWs (L:List CD):Prop:=∀c∈L,I32 c.rune
abbrev q_crow (L:List CD):QA:=([.vec .cell L],CWs L∧L.length≤4611686018427387904,.ret (.bool (jb0 L)))
def sp_crow:=spQ (u1 q_crow)
theorem jqg:W1 (hA sp_crow) q_crow:=w1 (aA rfl)
theorem jwK:Al 126 sp_crow:=ofA (u1 q_crow) fun L hG=>tfi (.f [.any] jkh jwG .nil) 0 jgi (by
 dsimp only[u1,q_crow]at hG ⊢
 have zc:=Hk.mk (qaa @jqe @List.drop_replicate.{0})
 obtain⟨hc,hl⟩:=hG
 repeat' first|refine tU ?_|refine qab [] [] rfl ?_|refine qaa ?_ ?_|(refine tI ?_;intro hyp)|intro hyp0|exact tZ|omega
 ·simp only[jb0,decide_eq_false (show ¬(1≤L.length∧L.length≤80) by omega),←Bool.decide_and]
  rfl
 refine T.loop (fun k:Nat=>⟨[(0,.vec .cell L),(14,.vec .cell L),(15,.int .i64 L.length),(16,.int .i64 k)],[]⟩) (fun k=>k≤L.length∧∀j,j<k→jfr L j=true) (fun k=>L.length-k) 0 ⟨by omega,fun j hj=>by omega⟩ (qab [] [] rfl (by exact tG)) (fun k ⟨hk,hall⟩=>?_)
 have hck:k<L.length→I32 (L.getD k default).rune:=fun h=>hc _ (jlk h)
 repeat' first|refine tU ?_|refine qab [] [] rfl ?_|refine qaa ?_ ?_|(refine tI ?_;intro hyp)|intro hyp0|exact tZ|omega
 ·refine jr4 (by omega:k<L.length) ?_
  simp only[jfr,jhA,cAt,penSame,ibeq]
  clear hall hc
  grind
 ·refine⟨k+1,⟨by omega,jcU ?_ hall⟩,by omega,(qab [] [] rfl (by exact tG))⟩
  simp only[jfr,jhA,cAt,penSame,ibeq]
  clear hall hc
  grind
 ·refine⟨k+1,⟨by omega,jcU ?_ hall⟩,by omega,(qab [] [] rfl (by exact tG))⟩
  simp only[jfr,jhA,cAt,penSame,ibeq]
  clear hall hc
  grind
 ·refine jr4 (by omega:k<L.length) ?_
  simp only[jfr,jhA,cAt,penSame,ibeq]
  clear hall hc
  grind
 ·refine jr4 (by omega:k<L.length) ?_
  simp only[jfr,jhA,cAt,penSame,ibeq]
  clear hall hc
  grind
 ·simp only[jb0,jbN (n:=L.length) (k:=k) (by omega) hall,cAt,bne,ibeq,Bool.and_true]
  rw[decide_eq_true (show 1≤L.length by omega),decide_eq_true (show L.length≤80 by omega)]
  rfl)
theorem jwL:Fre 126 sp_crow:=ofF (u1 q_crow) jwK fun _=>rfl
abbrev q_rrow (L:List CD):QA:=([.vec .cell L],CWs L∧L.length≤4611686018427387904,.ret (.bool (jb0 L)))
def sp_rrow:=spQ (u1 q_rrow)
theorem jqh:W1 (hA sp_rrow) q_rrow:=w1 (aA rfl)
theorem jwM : Al 85 sp_rrow := ofA (u1 q_rrow) fun L hG => tfi (.f [.any] jml jwI .nil) 0 jhz (by
  dsimp only [u1, q_rrow] at hG ⊢
  have zc := Hk.mk (qaa @jqf @List.drop_replicate.{0})
  obtain ⟨hc, hl⟩ := hG
  repeat' first | refine tU ?_ | refine qab [] [] rfl ?_ | refine qaa ?_ ?_ | (refine tI ?_; intro hyp) | intro hyp0 | exact tZ | omega
  · simp only [jb0, decide_eq_false (show ¬ (1 ≤ L.length ∧ L.length ≤ 80) by omega), ← Bool.decide_and]
    rfl
  refine T.loop (fun k : Nat => ⟨[(0, .vec .cell L), (3, .int .i64 k)], []⟩) (fun k => k ≤ L.length ∧ ∀ j, j < k → jfI L j = true) (fun k => L.length - k) 0 ⟨by omega, fun j hj => by omega⟩ (qab [] [] rfl (by exact tG)) (fun k ⟨hk, hall⟩ => ?_)
  have hck : k < L.length → I32 (L.getD k default).rune := fun h => hc _ (jlk h)
  have hk1 : ((k : Int) = (L.length : Int) - 1) = (k = L.length - 1 ∧ 1 ≤ L.length) := propext (by omega)
  have hk0 : ((k : Int) = 0) = (k = 0) := propext (by omega)
  repeat' first | refine tU ?_ | refine qab [] [] rfl ?_ | refine qaa ?_ ?_ | (refine tI ?_; intro hyp) | intro hyp0 | exact tZ | omega
  all_goals first
    | (refine jwJ (by omega : k < L.length) ?_
       simp only [jfI, cAt, penSame, ibeq, nbeq, bne]
       clear hall hc
       grind)
    | (refine ⟨k + 1, ⟨by omega, jcU ?_ hall⟩, by omega, (qab [] [] rfl (by exact tG))⟩
       simp only [jfI, cAt, penSame, ibeq, nbeq, bne]
       clear hall hc
       grind)
    | (rw [← jvI]
       simp only [jo3, jbN (n := L.length) (k := k) (by omega) hall, Bool.and_true]
       rw [decide_eq_true (show 1 ≤ L.length by omega), decide_eq_true (show L.length ≤ 80 by omega)]
       rfl)
    | trace_state)
theorem jwN:Fre 85 sp_rrow:=ofF (u1 q_rrow) jwM fun _=>rfl
end
end
end Go.Proofs.YtienkkicehmchaaGreatDoor
