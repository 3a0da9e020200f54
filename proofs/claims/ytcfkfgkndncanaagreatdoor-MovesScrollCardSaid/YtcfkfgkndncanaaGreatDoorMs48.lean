/- Texts of this claim, merged by a program of this claim: FScroll. -/
import Derived.Test.YtcfkfgkndncanaaGreatDoorMs30
import Derived.Test.YtcfkfgkndncanaaGreatDoorMs45
import Derived.Test.YtcfkfgkndncanaaGreatDoorMs47
namespace Go.Proofs.YtcfkfgkndncanaaGreatDoor
set_option linter.unusedVariables false
set_option linter.unusedSimpArgs false
section
open Go.RowKit
set_option maxRecDepth 100000
set_option maxHeartbeats 4000000
def pcs (L:List CD):List (CD×Int):=(List.range L.length).map fun i=>(cAt L i,(i:Int))
theorem jgt (L:List CD):(pcs L).length=L.length:=by simp[pcs]
theorem jzK {L:List CD}{i:Nat}(h:i<L.length):(pcs L)[i]?=some (cAt L i,(i:Int)):=by simp[pcs,h]
theorem jxr (L:List CD):(pcs L).map Prod.fst=L:=by
 refine List.ext_getElem? fun i=>?_
 rw[List.getElem?_map]
 by_cases h:i<L.length
 ·rw[jzK h,jcZ h]
  rfl
 ·rw[List.getElem?_eq_none (by rw[jgt];omega),List.getElem?_eq_none (by omega)]
  rfl
abbrev joa (L:List CD):List CV:=[.vec .cell L]
abbrev job (L:List CD):Prop×Res:=(L.length≤1000,.ret (.vec (.pair .cell (.int .i64)) (pcs L)))
noncomputable def sp_pieces:Spec:=spOf (α:=(List CD)) (fun L=>joa L) fun L=>job L
theorem jjk (L:List CD):sp_pieces (joa L)=some (job L):=jak _ injS L
theorem jxs:Fresh Tryz.prog E0 93 sp_pieces:=Fresh.of fun L hG=>TF.intro (V:=(VV [] GOk.nil 24 0)) jjh rfl rfl (by
 dsimp only[joa,job]at hG ⊢
 repeat' first|simp only[SA,seval,rdB,tq0,tq1,tq2,List.set_set]|simp only[hw]|refine tT ?_|refine And.intro ?_ ?_|exact tC|(refine tI ?_;intro hyp)|intro hyp0|omega
 refine T.loop (fun i:Nat=>⟨[(0,.vec .cell L),(3,.slice 0 0 7 L.length L.length),(9,.int .i64 L.length),(10,.int .i64 i)],[.seq (.pair .cell (.int .i64)) ((pcs L).take i++List.replicate (L.length-i) (default,0))]⟩) (fun i=>i≤L.length) (fun i=>L.length-i) 0 (by omega) (Cos.intro [0] [] rfl (by (simp only[SA,seval,rdB,tq0,tq1,tq2,List.set_set]<;>exact tE))) (fun i hi=>?_)
 have hlen:((pcs L).take i++List.replicate (L.length-i) ((default,0):CD×Int)).length=L.length:=by simp[jgt];omega
 by_cases hin:i<L.length
 ·have hw:=hlen
  have hs:=jBb (A:=(pcs L).take i) (n:=L.length) (k:=i) (a:=(cAt L i,(i:Int))) (d:=((default,0):CD×Int)) (by rw[List.length_take,jgt];omega) hin
  have hc:=jfZ hin
  repeat' first|simp only[SA,seval,rdB,tq0,tq1,tq2,List.set_set]|simp only[hw]|refine tT ?_|refine And.intro ?_ ?_|exact tC|(refine tI ?_;intro hyp)|intro hyp0|omega
  ·rw[List.length_take,jgt]
   omega
  ·simp[jcs,ETy.enc]
  ·exact⟨i+1,by omega,by omega,Cos.intro [0] [] rfl (by rw[jaW (jzK hin),←hs,hc];(simp only[SA,seval,rdB,tq0,tq1,tq2,List.set_set]<;>exact tE))⟩
 ·obtain rfl:i=L.length:=by omega
  repeat' first|simp only[SA,seval,rdB,tq0,tq1,tq2,List.set_set]|simp only[hw]|refine tT ?_|refine And.intro ?_ ?_|exact tC|(refine tI ?_;intro hyp)|intro hyp0|omega
  refine Cos.intro [0] [] rfl ?_
  have:(pcs L).take L.length=pcs L:=List.take_of_length_le (by rw[jgt];exact Nat.le_refl _)
  rw[this,jgt]
  (simp only[SA,seval,rdB,tq0,tq1,tq2,List.set_set]<;>exact tE))
abbrev jrq (P:List (CD×Int)):List CV:=[.vec (.pair .cell (.int .i64)) P]
abbrev jrr (P:List (CD×Int)):Prop×Res:=(P.length≤1000∧∀q∈P,q.1.wide=0,.ret (.vec .cell (P.map Prod.fst)))
noncomputable def sp_rmend:Spec:=spOf (α:=(List (CD×Int))) (fun P=>jrq P) fun P=>jrr P
theorem jlB (P:List (CD×Int)):sp_rmend (jrq P)=some (jrr P):=jak _ injS P
theorem jzh:Fresh Tryz.prog E0 94 sp_rmend:=Fresh.of fun P hG=>TF.intro (V:=(VV [] GOk.nil 118 0)) jmt rfl rfl (by
 dsimp only[jrq,jrr]at hG ⊢
 obtain⟨hl,hn⟩:=hG
 repeat' first|simp only[SA,seval,rdB,tq0,tq1,tq2,List.set_set]|simp only[hw]|simp only[hw2]|refine tT ?_|refine And.intro ?_ ?_|exact tC|(refine tI ?_;intro hyp)|intro hyp0|omega
 refine T.loop (fun i:Nat=>⟨[(0,.vec (.pair .cell (.int .i64)) P),(3,.slice 0 0 6 P.length P.length),(9,.int .i64 P.length),(10,.int .i64 i)],[.seq .cell ((P.map Prod.fst).take i++List.replicate (P.length-i) default)]⟩) (fun i=>i≤P.length) (fun i=>P.length-i) 0 (by omega) (Cos.intro [0] [] rfl (by (simp only[SA,seval,rdB,tq0,tq1,tq2,List.set_set]<;>exact tE))) (fun i hi=>?_)
 have hlen:((P.map Prod.fst).take i++List.replicate (P.length-i) default).length=P.length:=by simp;omega
 by_cases hin:i<P.length
 ·have hw:=hlen
  have hw2:=hn _ (List.mem_of_getElem? (jbH (L:=P) (k:=i) (d:=((default,0):CD×Int)) hin))
  have hs:=jBb (A:=(P.map Prod.fst).take i) (n:=P.length) (k:=i) (a:=(P.getD i (default,0)).1) (d:=(default:CD)) (by rw[List.length_take,List.length_map];omega) hin
  have hat:(P.map Prod.fst)[i]?=some (P.getD i (default,0)).1:=by rw[List.getElem?_map,jbH (L:=P) (k:=i) (d:=((default,0):CD×Int)) hin];rfl
  repeat' first|simp only[SA,seval,rdB,tq0,tq1,tq2,List.set_set]|simp only[hw]|simp only[hw2]|refine tT ?_|refine And.intro ?_ ?_|exact tC|(refine tI ?_;intro hyp)|intro hyp0|omega
  ·rw[List.length_take,List.length_map]
   omega
  ·rw[List.length_take]
   omega
  ·exact⟨i+1,by omega,by omega,Cos.intro [0] [] rfl (by rw[jaW hat,←hs];(simp only[SA,seval,rdB,tq0,tq1,tq2,List.set_set]<;>exact tE))⟩
 ·obtain rfl:i=P.length:=by omega
  repeat' first|simp only[SA,seval,rdB,tq0,tq1,tq2,List.set_set]|simp only[hw]|simp only[hw2]|refine tT ?_|refine And.intro ?_ ?_|exact tC|(refine tI ?_;intro hyp)|intro hyp0|omega
  refine Cos.intro [0] [] rfl ?_
  have:(P.map Prod.fst).take P.length=P.map Prod.fst:=List.take_of_length_le (by rw[List.length_map];exact Nat.le_refl _)
  rw[this,List.length_map]
  (simp only[SA,seval,rdB,tq0,tq1,tq2,List.set_set]<;>exact tE))
abbrev jrs (l:List CD) (x:Nat) (c:Int) (p:PD):List CV:=[.vec .cell l,.int .i64 x,.int .i32 c,penV p]
abbrev jrt (l:List CD) (x:Nat) (c:Int) (p:PD):Prop×Res:=((jcN l=true∧penB p=true∧(∀q∈l,q.wide=0)∧Utf.width c=1)∧(x<l.length∧CWs l∧I32 c∧l.length≤1000),.ret (.vec .cell (l.set x ⟨c,0,p.fg,p.bg,p.attrs,p.link⟩)))
noncomputable def sp_rputN:Spec:=spOf (α:=(List CD)×Nat×Int×PD) (fun⟨l,x,c,p⟩=>jrs l x c p) fun⟨l,x,c,p⟩=>jrt l x c p
theorem jlC (l:List CD) (x:Nat) (c:Int) (p:PD):sp_rputN (jrs l x c p)=some (jrt l x c p):=jak _ injS (l,x,c,p)
theorem jzi:Fresh Tryz.prog E0 52 sp_rputN:=Fresh.of fun⟨l,x,c,p⟩ hG=>TF.intro (V:=(VV [(76,conF [.sl .cell] sp_rrow),(50,conF [.any] sp_rpen),(46,conF [.any] sp_r7width),(93,conT [.sl .cell] sp_pieces),(94,conT [.sl (.pair .cell (.int .i64))] sp_rmend)] (.cons (jaa jeT) (Fresh.soundF jqm) (.cons (jaa jdQ) (Fresh.soundF jnj) (.cons (jaa jfK) (Fresh.soundF jip) (.cons (jaa jjh) (Fresh.soundT jxs) (.cons (jaa jmt) (Fresh.soundT jzh) GOk.nil))))) 71 0)) jpc rfl rfl (by
 dsimp only[jrs,jrt]at hG ⊢
 obtain⟨⟨h1,h2,h3,h4⟩,hx,hc,hi,hl⟩:=hG
 have hw:=And.intro h1 (And.intro h2 h4)
 have hw2:=jgt l
 have hmap:((pcs l).set x (⟨c,0,p.fg,p.bg,p.attrs,p.link⟩,-10)).map Prod.fst=l.set x ⟨c,0,p.fg,p.bg,p.attrs,p.link⟩:=by rw[List.map_set,jxr]
 have hnar:∀q∈(pcs l).set x ((⟨c,0,p.fg,p.bg,p.attrs,p.link⟩:CD),(-10:Int)),q.1.wide=0:=fun q hq=>by
  rcases List.mem_or_eq_of_mem_set hq with h|h
  ·have:=List.mem_map_of_mem (f:=Prod.fst) h
   rw[jxr]at this
   exact h3 _ this
  ·rw[h]
 have hlen:((pcs l).set x ((⟨c,0,p.fg,p.bg,p.attrs,p.link⟩:CD),(-10:Int))).length=l.length:=by rw[List.length_set,jgt]
 have htk:List.take l.length ((pcs l).set x ((⟨c,0,p.fg,p.bg,p.attrs,p.link⟩:CD),(-10:Int)))=(pcs l).set x (⟨c,0,p.fg,p.bg,p.attrs,p.link⟩,-10):=List.take_of_length_le (by omega)
 have hw3:=And.intro htk (And.intro hmap hlen)
 repeat' first|exact hc|exact hnar|simp only[SA,seval,rdB,jbO,jbj,jbT,jjk,jlB,tq0,tq1,tq2,List.set_set]|simp only[hw]|simp only[hw2]|simp only[hw3]|refine tT ?_|refine And.intro ?_ ?_|exact tC|(refine tI ?_;intro hyp)|intro hyp0|omega
 ·simp[jcs,ETy.enc]
 ·exact Cos.intro [2] [] rfl (by (simp only[SA,seval,rdB,jbO,jbj,jbT,jjk,jlB,tq0,tq1,tq2,List.set_set]<;>exact tE)))
abbrev joc (k:Int) (r:Int) (L:List CD) (x:Int) (y:Int) (hd:Bool) (mo:Int) (ti:ByteArray) (l:List ByteArray):List CV:=[.agg [.int .i64 k,.int .i64 r,.vec .cell L,.int .i64 x,.int .i64 y,.bool hd,.int .u8 mo,.str ti,.vec .str l]]
abbrev jod (k:Int) (r:Int) (L:List CD) (x:Int) (y:Int) (hd:Bool) (mo:Int) (ti:ByteArray) (l:List ByteArray):Prop×Res:=(True,.ret (.agg [.int .i64 k,.int .i64 r,.vec .cell L]))
noncomputable def sp_r8grid:Spec:=spOf (α:=Int×Int×(List CD)×Int×Int×Bool×Int×ByteArray×(List ByteArray)) (fun⟨k,r,L,x,y,hd,mo,ti,l⟩=>joc k r L x y hd mo ti l) fun⟨k,r,L,x,y,hd,mo,ti,l⟩=>jod k r L x y hd mo ti l
theorem jcb (k:Int) (r:Int) (L:List CD) (x:Int) (y:Int) (hd:Bool) (mo:Int) (ti:ByteArray) (l:List ByteArray):sp_r8grid (joc k r L x y hd mo ti l)=some (jod k r L x y hd mo ti l):=jak _ injS (k,r,L,x,y,hd,mo,ti,l)
theorem jxt:Alias Tryz.prog E0 19 sp_r8grid:=Alias.of fun⟨k,r,L,x,y,hd,mo,ti,l⟩ hG=>TF.intro (V:=(VV [] GOk.nil 10 0)) jmu rfl rfl (by
 dsimp only[joc,jod]at hG ⊢
 repeat' first|simp only[SA,seval,rdB,tq0,tq1,tq2,List.set_set]|refine tT ?_|refine Cos.intro [] [] rfl ?_|refine And.intro ?_ ?_|exact tC|(refine tI ?_;intro hyp)|intro hyp0|omega)
abbrev jru (k:Nat) (r:Nat) (L:List CD):List CV:=[.agg [.int .i64 k,.int .i64 r,.vec .cell L]]
abbrev jrv (k:Nat) (r:Nat) (L:List CD):Prop×Res:=(jbM k r L=true∧CWs L,.ret (.tup [.vec (.rows .cell) (jam L k r),.bool true]))
noncomputable def sp_rowsT:Spec:=spOf (α:=Nat×Nat×(List CD)) (fun⟨k,r,L⟩=>jru k r L) fun⟨k,r,L⟩=>jrv k r L
theorem jbq (k:Nat) (r:Nat) (L:List CD):sp_rowsT (jru k r L)=some (jrv k r L):=jak _ injS (k,r,L)
theorem jsK:Fresh Tryz.prog E0 42 sp_rowsT:=Fresh.of fun⟨k,r,L⟩ hG=>TF.intro (V:=(VV [(72,conF [.sl .cell] sp_rcopy),(76,conF [.sl .cell] sp_rrow)] (.cons (jaa jit) (Fresh.soundF jsa) (.cons (jaa jeT) (Fresh.soundF jqm) GOk.nil)) 66 0)) jfn rfl rfl (by
 dsimp only[jru,jrv]at hG ⊢
 obtain⟨hg,hc⟩:=hG
 have hg2:=hg
 simp only[jbM,HB,ne_eq,reduceCtorEq]at hg2
 have hf:=jdh.1 hg2.1.1
 have hln:L.length=k*r:=by
  have:(L.length:Int)=((k*r:Nat):Int):=by rw[hg2.1.2];simp
  omega
 have hkr:k*r≤1920:=Nat.mul_le_mul (show k≤80 by omega) (show r≤24 by omega)
 have hmul:(k:Int)*r=((k*r:Nat):Int):=by simp
 have hall:∀y,y<r→jcN (jaY L k y)=true:=fun y hy=>by
  have:=hg2.2
  rw[List.all_eq_true]at this
  have:=this y (List.mem_range.2 (by omega))
  simpa using this
 have hw:=hmul
 repeat' first|simp only[SA,seval,rdB,jbY,jbO,tq0,tq1,tq2,List.set_set]|simp only[hw]|simp only[hw2]|simp only[hw3]|simp only[hw4]|simp only[hw5]|refine tT ?_|refine And.intro ?_ ?_|exact tC|(refine tI ?_;intro hyp)|intro hyp0|omega
 refine T.loop (fun y:Nat=>⟨[(1,.ptr 0 0 0),(4,.slice 1 0 1 y y),(5,.int .i64 y)],[.box [.int .i64 k,.int .i64 r,.vec .cell L],.seq (.rows .cell) (jam L k y)]⟩) (fun y=>y≤r) (fun y=>r-y) 0 (by omega) (Cos.intro [0,1] [] rfl (by simp only[SA,seval,rdB,jbY,jbO,tq0,tq1,tq2,List.set_set];simp[jam])) (fun y hy=>?_)
 have hrow:y<r→(y+1)*k≤L.length:=fun h=>by
  rw[hln,Nat.mul_comm k r]
  exact Nat.mul_le_mul_right k h
 have hcr:=jsc hc k y
 have hrl:(jaY L k y).length≤1000000:=by simp[jaY];omega
 have hml:(jam L k y).length=y:=by simp[jam]
 have hmf:y<r→0≤(y:Int)*k∧(y:Int)*k≤1000000∧(y:Int)*k+k≤L.length:=fun h=>by
  have:=jfo (hrow h)
  omega
 have hw5:((y:Int)*k+k).toNat=y*k+k:=by rw[←tq0,←Int.toNat_add_nat (Int.mul_nonneg (by omega) (by omega))]
 have hw3:List.take y (jam L k y)=jam L k y:=List.take_of_length_le (by omega)
 have hw2:List.take k (List.drop (y*k) L)=jaY L k y:=rfl
 by_cases hyr:y<r
 ·have hw4:=hall y hyr
  repeat' first|exact hcr|simp only[SA,seval,rdB,jbY,jbO,tq0,tq1,tq2,List.set_set]|simp only[hw]|simp only[hw2]|simp only[hw3]|simp only[hw4]|simp only[hw5]|refine tT ?_|refine And.intro ?_ ?_|exact tC|(refine tI ?_;intro hyp)|intro hyp0|omega
  refine⟨y+1,by omega,by omega,Cos.intro [0,3] [] rfl ?_⟩
  have:jam L k (y+1)=jam L k y++[jaY L k y]:=by simp[jam,List.range_succ]
  simp only[SA,seval,rdB,jbY,jbO,tq0,tq1,tq2,List.set_set,this,hml]
  simp
 ·obtain rfl:y=r:=by omega
  repeat' first|simp only[SA,seval,rdB,jbY,jbO,tq0,tq1,tq2,List.set_set]|simp only[hw]|simp only[hw2]|simp only[hw3]|simp only[hw4]|simp only[hw5]|refine tT ?_|refine And.intro ?_ ?_|exact tC|(refine tI ?_;intro hyp)|intro hyp0|omega
  exact Cos.intro [1] [] rfl (by (simp only[SA,seval,rdB,jbY,jbO,tq0,tq1,tq2,List.set_set]<;>exact tE)))
theorem jsL {M:List (List CD)}{k r:Nat}(h:Rect M k r) (hr:1≤r):(M.getLastD []).length=k:=by
 have hl:r-1<M.length:=by rw[h.len];omega
 have:M.getLastD []=M[r-1]:=by
  rw[List.getLastD_eq_getLast?,List.getLast?_eq_getElem?,h.len,List.getElem?_eq_getElem hl]
  rfl
 rw[this]
 exact h.row _ (List.getElem_mem hl)
theorem jzj {M:List (List CD)}{k r y:Nat}{q:List CD}(h:Rect M k r) (hq:q.length=k):Rect (M.set y q) k r:=⟨by rw[List.length_set,h.len],fun l hl=>by
 rcases List.mem_or_eq_of_mem_set hl with h1|h1
 ·exact h.row l h1
 ·rw[h1,hq]⟩
abbrev jxu (k:Nat) (r:Nat) (L:List CD) (x:Nat) (y:Nat) (n:Int) (c:Int) (p:PD):List CV:=[.agg [.int .i64 k,.int .i64 r,.vec .cell L],.int .i64 0,.int .i64 x,.int .i64 y,.int .i64 n,.int .i32 c,penV p]
abbrev jxv (k:Nat) (r:Nat) (L:List CD) (x:Nat) (y:Nat) (n:Int) (c:Int) (p:PD):Prop×Res:=((jbM k r L=true∧penB p=true∧CWs L)∧(x<k∧y<r∧(∀q∈jaY L k y,q.wide=0)∧Utf.width c=1∧I32 c),.ret (.agg [.int .i64 k,.int .i64 r,.vec .cell ((jam L k r).set y ((jaY L k y).set x ⟨c,0,p.fg,p.bg,p.attrs,p.link⟩)).flatten]))
noncomputable def sp_r9do:Spec:=spOf (α:=Nat×Nat×(List CD)×Nat×Nat×Int×Int×PD) (fun⟨k,r,L,x,y,n,c,p⟩=>jxu k r L x y n c p) fun⟨k,r,L,x,y,n,c,p⟩=>jxv k r L x y n c p
theorem jc6 (k:Nat) (r:Nat) (L:List CD) (x:Nat) (y:Nat) (n:Int) (c:Int) (p:PD):sp_r9do (jxu k r L x y n c p)=some (jxv k r L x y n c p):=jak _ injS (k,r,L,x,y,n,c,p)
theorem jBu:Fresh Tryz.prog E0 20 sp_r9do:=Fresh.of fun⟨k,r,L,x,y,n,c,p⟩ hG=>TF.intro (V:=(VV [(42,conT [.agg [.any,.any,.sl .cell]] sp_rowsT),(50,conF [.any] sp_rpen),(52,conF [.sl .cell,.any,.any,.any] sp_rputN),(35,conT [.sl (.rows .cell)] sp_rgof)] (.cons (jaa jfn) (Fresh.soundT jsK) (.cons (jaa jdQ) (Fresh.soundF jnj) (.cons (jaa jpc) (Fresh.soundF jzi) (.cons (jaa jjD) (Fresh.soundT jvX) GOk.nil)))) 80 0)) jsG rfl rfl (by
 dsimp only[jxu,jxv]at hG ⊢
 obtain⟨⟨hg,hp,hc⟩,hx,hy,hn,hwd,hi⟩:=hG
 have hg2:=hg
 simp only[jbM,HB,ne_eq,reduceCtorEq]at hg2
 have hf:=jdh.1 hg2.1.1
 have hln:L.length=k*r:=by
  have:(L.length:Int)=((k*r:Nat):Int):=by rw[hg2.1.2];simp
  omega
 have hkr:k*r≤1920:=Nat.mul_le_mul (show k≤80 by omega) (show r≤24 by omega)
 have hrow:jcN (jaY L k y)=true:=by
  have:=hg2.2
  rw[List.all_eq_true]at this
  have:=this y (List.mem_range.2 (by omega))
  simpa using this
 have hrl:=jcl hln hy
 have hget:(jam L k r).getD y []=jaY L k y:=jAk (by simp[jam,hy])
 have hR:=jzj (y:=y) (q:=(jaY L k y).set x ⟨c,0,p.fg,p.bg,p.attrs,p.link⟩) (jbk hln) (by rw[List.length_set,hrl])
 have hlast:=jsL hR (by omega)
 have hfl:((jam L k r).set y ((jaY L k y).set x ⟨c,0,p.fg,p.bg,p.attrs,p.link⟩)).flatten.length=r*k:=by rw[jgm _ hR.row,hR.len]
 have hm:r*k≤1920:=by rw[Nat.mul_comm];exact hkr
 have hml:(jam L k r).length=r:=jbD _ _ _
 have hsl:((jam L k r).set y ((jaY L k y).set x ⟨c,0,p.fg,p.bg,p.attrs,p.link⟩)).length=r:=hR.len
 have htk:List.take r ((jam L k r).set y ((jaY L k y).set x ⟨c,0,p.fg,p.bg,p.attrs,p.link⟩))=(jam L k r).set y ((jaY L k y).set x ⟨c,0,p.fg,p.bg,p.attrs,p.link⟩):=List.take_of_length_le (by omega)
 have hw:=And.intro hp (And.intro hget htk)
 have hw2:=And.intro hml hrl
 have hw3:=And.intro hlast (And.intro hfl hsl)
 have hcr:=jsc hc k y
 repeat' first|exact hc|exact hn|exact hcr|exact hrow|exact hg|simp only[SA,seval,rdB,jbq,jbj,jlC,jbB,tq0,tq1,tq2,List.set_set]|simp only[hw]|simp only[hw2]|simp only[hw3]|refine tT ?_|refine And.intro ?_ ?_|exact tC|(refine tI ?_;intro hyp)|intro hyp0|omega
 exact Cos.intro [4] [] rfl (by (simp only[SA,seval,rdB,jbq,jbj,jlC,jbB,tq0,tq1,tq2,List.set_set]<;>exact tE)))
def jh3 (M:List (List CD)) (y:Nat):List (List CD):=(M.drop 1).take y++M.drop y
theorem jsM {M:List (List CD)}{y:Nat}(h:y+1≤M.length) (i:Nat):(jh3 M y)[i]?=if i<y then M[i+1]? else M[i]?:=by
 have hl:((M.drop 1).take y).length=y:=by rw[List.length_take,List.length_drop];omega
 unfold jh3
 split
 ·rename_i q
  rw[List.getElem?_append_left (by omega),List.getElem?_take_of_lt q,List.getElem?_drop,Nat.add_comm]
 ·rename_i q
  rw[List.getElem?_append_right (by omega),hl,List.getElem?_drop]
  congr 1
  omega
theorem jxw {M:List (List CD)}{y:Nat}(h:y+1≤M.length):(jh3 M y).length=M.length:=by
 unfold jh3
 rw[List.length_append,List.length_take,List.length_drop,List.length_drop]
 omega
theorem jBv {M:List (List CD)}{y:Nat}(h:y+1<M.length):(jh3 M y).getD (y+1) []=M.getD (y+1) []:=by
 rw[List.getD_eq_getElem?_getD,jsM (by omega),if_neg (by omega),List.getD_eq_getElem?_getD]
theorem jBw {M:List (List CD)}{y:Nat}(h:y+1<M.length):(jh3 M y).set y (M.getD (y+1) [])=jh3 M (y+1):=by
 refine List.ext_getElem? fun i=>?_
 rw[List.getElem?_set,jxw (by omega),jsM (by omega),jsM (by omega)]
 by_cases q:y=i
 ·subst q
  rw[if_pos rfl,if_pos (by omega),if_pos (by omega),jbH h]
 ·rw[if_neg q]
  by_cases q1:i<y
  ·rw[if_pos q1,if_pos (by omega)]
  ·rw[if_neg q1,if_neg (by omega)]
theorem jCn {M:List (List CD)}{y:Nat}(h:y+1=M.length) (b:List CD):(jh3 M y).set y b=M.drop 1++[b]:=by
 have hl:(M.drop 1).length=y:=by rw[List.length_drop];omega
 refine List.ext_getElem? fun i=>?_
 rw[List.getElem?_set,jxw (by omega),jsM (by omega)]
 by_cases q:y=i
 ·subst q
  rw[if_pos rfl,if_pos (by omega),List.getElem?_append_right (by omega),hl,Nat.sub_self]
  rfl
 ·rw[if_neg q]
  by_cases q1:i<y
  ·rw[if_pos q1,List.getElem?_append_left (by omega),List.getElem?_drop,Nat.add_comm]
  ·rw[if_neg q1,List.getElem?_eq_none (by omega),List.getElem?_eq_none (by rw[List.length_append,hl,List.length_singleton];omega)]
abbrev jiX (k:Nat) (r:Nat) (L:List CD):List CV:=[.agg [.int .i64 k,.int .i64 r,.vec .cell L],.int .i64 0,.int .i64 ((r:Int)-1),.int .i64 1,penV ⟨0,0,0,0⟩]
abbrev jiY (k:Nat) (r:Nat) (L:List CD):Prop×Res:=(jbM k r L=true∧CWs L,.ret (.agg [.int .i64 k,.int .i64 r,.vec .cell ((jam L k r).drop 1++[List.replicate k blank0]).flatten]))
noncomputable def sp_r9scroll:Spec:=spOf (α:=Nat×Nat×(List CD)) (fun⟨k,r,L⟩=>jiX k r L) fun⟨k,r,L⟩=>jiY k r L
theorem jbF (k:Nat) (r:Nat) (L:List CD):sp_r9scroll (jiX k r L)=some (jiY k r L):=jak _ injS (k,r,L)
theorem jrw:Fresh Tryz.prog E0 18 sp_r9scroll:=Fresh.of fun⟨k,r,L⟩ hG=>TF.intro (V:=(VV [(42,conT [.agg [.any,.any,.sl .cell]] sp_rowsT),(50,conF [.any] sp_rpen),(51,conF [.any,.any] sp_rblanks),(35,conT [.sl (.rows .cell)] sp_rgof)] (.cons (jaa jfn) (Fresh.soundT jsK) (.cons (jaa jdQ) (Fresh.soundF jnj) (.cons (jaa jgl) (Fresh.soundF jtn) (.cons (jaa jjD) (Fresh.soundT jvX) GOk.nil)))) 107 0)) jji rfl rfl (by
 dsimp only[jiX,jiY]at hG ⊢
 obtain⟨hg,hc⟩:=hG
 have hg2:=hg
 simp only[jbM,HB,ne_eq,reduceCtorEq]at hg2
 have hf:=jdh.1 hg2.1.1
 have hln:L.length=k*r:=by
  have:(L.length:Int)=((k*r:Nat):Int):=by rw[hg2.1.2];simp
  omega
 have hw:=And.intro jqV (jbD L k r)
 repeat' first|exact hc|exact hg|simp only[SA,seval,rdB,jbq,jbj,jbg,jbB,tq0,tq1,tq2,List.set_set]|simp only[hw]|refine tT ?_|refine And.intro ?_ ?_|exact tC|(refine tI ?_;intro hyp)|intro hyp0|omega
 obtain⟨M,hM⟩:∃M,jam L k r=M:=⟨_,rfl⟩
 have hMl:M.length=r:=by rw[←hM];exact jbD _ _ _
 have hR:=jbk hln
 rw[hM]at hR ⊢
 have hbk:jeU ⟨0,0,0,0⟩=blank0:=rfl
 have hR2:Rect (M.drop 1++[List.replicate k blank0]) k r:=⟨by rw[List.length_append,List.length_drop,List.length_singleton];omega,fun l hl=>by
  rcases List.mem_append.1 hl with h|h
  ·exact hR.row l (List.mem_of_mem_drop h)
  ·rw[List.mem_singleton.1 h,List.length_replicate]⟩
 have hfl:(M.drop 1++[List.replicate k blank0]).flatten.length=r*k:=by rw[jgm _ hR2.row,hR2.len]
 have hm:r*k≤1920:=by rw[Nat.mul_comm];exact Nat.mul_le_mul (show k≤80 by omega) (show r≤24 by omega)
 have hlast:=jsL hR2 (by omega)
 have htk:List.take r (M.drop 1++[List.replicate k blank0])=M.drop 1++[List.replicate k blank0]:=List.take_of_length_le (by rw[hR2.len];exact Nat.le_refl _)
 refine T.loop (fun j:Nat=>⟨[(1,.int .i64 0),(2,.int .i64 ((r:Int)-1)),(3,.int .i64 1),(5,.ptr 0 0 0),(9,.ptr 1 0 0),(10,.ptr 2 0 0),(11,.slice 3 0 1 r r),(13,.int .i64 j)],[.box [.int .i64 k,.int .i64 r,.vec .cell L],.box [.int .u32 0,.int .u32 0,.int .u8 0,.int .u16 0],.box [.int .i64 0,.int .i64 0,.nils],.seq (.rows .cell) (if j=0 then M else M.drop 1++[List.replicate k blank0])]⟩) (fun j=>j≤1) (fun j=>1-j) 0 (by omega) (Cos.intro [0,1,2,3] [] rfl (by rw[if_pos rfl];(simp only[SA,seval,rdB,jbq,jbj,jbg,jbB,tq0,tq1,tq2,List.set_set]<;>exact tE))) (fun j hj=>?_)
 rcases (show j=0∨j=1 by omega)with rfl|rfl
 ·rw[if_pos rfl]
  repeat' first|simp only[SA,seval,rdB,jbq,jbj,jbg,jbB,tq0,tq1,tq2,List.set_set]|simp only[hw]|refine tT ?_|refine And.intro ?_ ?_|exact tC|(refine tI ?_;intro hyp)|intro hyp0|omega
  refine T.loop (fun y:Nat=>⟨[(1,.int .i64 0),(2,.int .i64 ((r:Int)-1)),(3,.int .i64 1),(5,.ptr 0 0 0),(9,.ptr 1 0 0),(10,.ptr 2 0 0),(11,.slice 3 0 1 r r),(13,.int .i64 0),(14,.int .i64 y)],[.box [.int .i64 k,.int .i64 r,.vec .cell L],.box [.int .u32 0,.int .u32 0,.int .u8 0,.int .u16 0],.box [.int .i64 0,.int .i64 0,.nils],.seq (.rows .cell) (jh3 M y)]⟩) (fun y=>y+1≤r) (fun y=>r-y) 0 (by omega) (Cos.intro [0,1,2,3] [] rfl (by (simp only[SA,seval,rdB,jbq,jbj,jbg,jbB,tq0,tq1,tq2,List.set_set]<;>exact tE))) (fun y hy=>?_)
  have hsl:=jxw (M:=M) (y:=y) (by omega)
  by_cases hyr:y+1<r
  ·have hs:=jBw (M:=M) (y:=y) (by omega)
   have hw:=And.intro (jBv (M:=M) (y:=y) (by omega)) hsl
   repeat' first|simp only[SA,seval,rdB,jbq,jbj,jbg,jbB,tq0,tq1,tq2,List.set_set]|simp only[hw]|refine tT ?_|refine And.intro ?_ ?_|exact tC|(refine tI ?_;intro hyp)|intro hyp0|omega
   exact⟨y+1,by omega,by omega,Cos.intro [0,1,2,3] [] rfl (by rw[←hs];(simp only[SA,seval,rdB,jbq,jbj,jbg,jbB,tq0,tq1,tq2,List.set_set]<;>exact tE))⟩
  ·obtain rfl:r=y+1:=by omega
   have he:=jCn (M:=M) (y:=y) (by omega) (List.replicate k blank0)
   have hw:=And.intro hsl hMl
   repeat' first|simp only[SA,seval,rdB,jbq,jbj,jbg,jbB,tq0,tq1,tq2,List.set_set]|simp only[hw]|refine tT ?_|refine And.intro ?_ ?_|exact tC|(refine tI ?_;intro hyp)|intro hyp0|omega
   exact⟨1,by omega,by omega,Cos.intro [0,1,2,3] [] rfl (by rw[if_neg (by omega),←he,hbk];(simp only[SA,seval,rdB,jbq,jbj,jbg,jbB,tq0,tq1,tq2,List.set_set]<;>exact tE))⟩
 ·rw[if_neg (by omega)]
  have hw:=And.intro htk (And.intro hlast (And.intro hfl hR2.len))
  repeat' first|simp only[SA,seval,rdB,jbq,jbj,jbg,jbB,tq0,tq1,tq2,List.set_set]|simp only[hw]|refine tT ?_|refine And.intro ?_ ?_|exact tC|(refine tI ?_;intro hyp)|intro hyp0|omega
  refine T.loop (fun _:Unit=>⟨[(1,.int .i64 0),(2,.int .i64 ((r:Int)-1)),(3,.int .i64 1),(5,.ptr 0 0 0),(9,.ptr 1 0 0),(10,.ptr 2 0 0),(11,.slice 3 0 1 r r),(15,.int .i64 0)],[.box [.int .i64 k,.int .i64 r,.vec .cell L],.box [.int .u32 0,.int .u32 0,.int .u8 0,.int .u16 0],.box [.int .i64 0,.int .i64 0,.nils],.seq (.rows .cell) (M.drop 1++[List.replicate k blank0])]⟩) (fun _=>True) (fun _=>0) () trivial (Cos.intro [0,1,2,3] [] rfl (by (simp only[SA,seval,rdB,jbq,jbj,jbg,jbB,tq0,tq1,tq2,List.set_set]<;>exact tE))) (fun _ _=>?_)
  repeat' first|simp only[SA,seval,rdB,jbq,jbj,jbg,jbB,tq0,tq1,tq2,List.set_set]|simp only[hw]|refine tT ?_|refine And.intro ?_ ?_|exact tC|(refine tI ?_;intro hyp)|intro hyp0|omega
  ·rw[List.length_drop]
   omega
  ·exact Cos.intro [4] [] rfl (by (simp only[SA,seval,rdB,jbq,jbj,jbg,jbB,tq0,tq1,tq2,List.set_set]<;>exact tE)))
end
end Go.Proofs.YtcfkfgkndncanaaGreatDoor
