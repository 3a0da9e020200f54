/- Texts of this claim, merged by a program of this claim: FGrid, DiffM1. -/
import Derived.Test.YtienkkicehmchaaGreatDoorDo10
import Derived.Test.YtienkkicehmchaaGreatDoorDo5
import Derived.Test.YtienkkicehmchaaGreatDoorDo6
import Derived.Test.YtienkkicehmchaaGreatDoorDo7
import Derived.Test.YtienkkicehmchaaGreatDoorDo8
namespace Go.Proofs.YtienkkicehmchaaGreatDoor
open And renaming intro→qaa
open List renaming replicate→qab,length_append→qad,range→qae,flatten_cons→qaf,take_of_length_le→qag,mem_cons_of_mem→qai,flatten_append→qaj,drop_eq_getElem_cons→qam,length_cons→qao,set_append_right→qap,length_replicate→qaq,range_succ→qar,take_append_drop→qas,mem_append_right→qau,mem_of_mem_drop→qav,mem_of_mem_take→qaw,flatMap_append→qax,set_cons_zero→qay,flatMap_cons→qaz,flatten_nil→qbb,take→qbh
open Cos renaming intro→qac
open Nat renaming mul_le_mul_right→qah,succ_mul→qat,mul_comm→qba,add_mul→qbc,sub_self→qbf
open Int renaming mul_nonneg→qak,toNat_natCast→qan,le_trans→qbg
open Bool renaming false_and→qal,and_false→qbd,true_and→qbe
noncomputable section
set_option linter.unusedVariables false
set_option linter.unusedSimpArgs false
section
open Go.RowKit
set_option maxRecDepth 100000
set_option maxHeartbeats 4000000
theorem jAP {α:Type}(n k:Nat) (h:k<n) (a d:α):(qab k a++qab (n-k) d).set k a=qab (k+1) a++qab (n-(k+1)) d:=by
 rw[qap _ _ (by simp),show n-k=n-(k+1)+1 by omega,List.replicate_succ,qaq,qbf,qay,List.replicate_succ']
 simp
theorem Cos.rowl {h:KH}{i n c l:Nat}{t:ETy}{M L:List t.T}(hb:h.get i=.seq t M) (e:M=L) (hn:n=M.length) (hc:M.length≤c) (hl:L.length=l):Cos 0 ⟨[(0,.slice i 0 t.esz n c)],h⟩ ⟨[(0,.slice 0 0 t.esz l l)],[.seq t L]⟩:=by
 subst hl
 exact Cos.row hb e hn hc
theorem tq0 (a b:Nat):((a:Int)*(b:Int)).toNat=a*b:=by rw[←Int.natCast_mul];rfl
theorem tq1 (a b:Nat):(((a:Int)+1)*(b:Int)).toNat=(a+1)*b:=tq0 (a+1) b
theorem tq2 (a b:Nat):(a+1)*b-a*b=b:=by rw[qbc];omega
def jbr (cols rows:Int):Bool:=decide (1≤cols)&&decide (cols≤80)&&decide (1≤rows)&&decide (rows≤24)
def jax (L:List CD) (cols y:Nat):List CD:=(L.drop (y*cols)).take cols
def jbo (cols rows:Int) (L:List CD):Bool:=jbr cols rows&&((L.length:Int)==cols*rows)&&(qae rows.toNat).all (fun y=>jcl (jax L cols.toNat y))
theorem jx8 {L:List CD}(h:CWs L) (n y:Nat):CWs (jax L n y):=fun c hc=>h c (qav (qaw hc))
theorem jei {y n N:Nat}(h:(y+1)*n≤N):0≤(y:Int)*n∧(y:Int)*n≤N∧0≤((y:Int)+1)*n∧((y:Int)+1)*n≤N∧((y:Int)+1)*n=y*n+n:=by
 have h1:((y:Int)+1)*n=y*n+n:=by rw[Int.add_mul,Int.one_mul]
 have h2:(0:Int)≤(y:Int)*n:=qak (by omega) (by omega)
 have h3:(((y+1)*n:Nat):Int)=((y:Int)+1)*n:=by simp
 omega
abbrev q_fits (k r:Int):QA:=([.int .i64 k,.int .i64 r],True,.ret (.bool (jbr k r)))
def sp_fits:=spQ (u2 q_fits)
theorem jlj:W2 (hA sp_fits) q_fits:=w2 (aA rfl)
theorem jze:Al 125 sp_fits:=ofA (u2 q_fits) fun⟨k,r⟩ hG=>tfi .nil 0 jgD (by
 dsimp only[u2,q_fits]at hG ⊢
 have zc:=Hk.mk (qaa @tq0 (qaa @tq1 @tq2))
 repeat' first|refine tU ?_|refine qac [] [] rfl ?_|refine qaa ?_ ?_|(refine tI ?_;intro hyp)|intro hyp0|exact tZ|omega
 rfl)
theorem jtI:Fre 125 sp_fits:=ofF (u2 q_fits) jze fun _=>rfl
abbrev jtJ:List AK:=[.agg [.any,.any,.sl .cell],.any]
abbrev q_grow (n:Nat) (r:Int) (L:List CD) (y:Nat):QA:=([.agg [.int .i64 n,.int .i64 r,.vec .cell L],.int .i64 y],(y+1)*n≤L.length∧L.length≤1000000∧y≤1000000,.ret (.vec .cell (jax L n y)))
def sp_grow:=spQ (u4 q_grow)
theorem jlk:W4 (hA sp_grow) q_grow:=w4 (aA rfl)
theorem jtK:Al 127 sp_grow:=ofA (u4 q_grow) fun⟨n,r,L,y⟩ hG=>tfi .nil 0 jfT (by
 dsimp only[u4,q_grow]at hG ⊢
 have zc:=Hk.mk (qaa @tq0 (qaa @tq1 @tq2))
 obtain⟨h1,h2,h4⟩:=hG
 have hm:=jei h1
 have hm2:(y+1)*n=y*n+n:=by rw[qbc];omega
 have hy:y*n≤1000000:=by omega
 repeat' first|refine tU ?_|refine qac [] [0,1,2,3,4,5,6,7,8,9] rfl ?_|refine qaa ?_ ?_|(refine tI ?_;intro hyp)|intro hyp0|exact tZ|omega
 rfl)
abbrev q_growM (n:Nat) (r:Int) (L:List CD) (y i m c:Nat):QM:=(([.agg [.int .i64 n,.int .i64 r,.slice 0 i 6 m c],.int .i64 y],[.seq .cell L]),(y+1)*n≤m∧m≤c∧c≤1000000∧y≤1000000,.ret (.slice 0 (i+y*n) 6 n n),[.seq .cell L])
def msp_growM:=mspQ (u7 q_growM)
theorem jnF:W7 (hM msp_growM) q_growM:=w7 (aM rfl)
theorem jwP:Mu 127 msp_growM:=ofM (u7 q_growM) fun⟨n,r,L,y,i,m,c⟩ hG=>tfi .nil 1 jfT (by
 dsimp only[u7,q_growM]at hG ⊢
 have zc:=Hk.mk (qaa @tq0 (qaa @tq1 @tq2))
 obtain⟨h1,h2,h3,h4⟩:=hG
 have hm:=jei h1
 have hm2:(y+1)*n=y*n+n:=by rw[qbc];omega
 have hy:y*n≤1000000:=by omega
 repeat' first|refine tU ?_|refine qac [0] [] rfl ?_|refine qaa ?_ ?_|(refine tI ?_;intro hyp)|intro hyp0|exact tZ|omega)
abbrev jtL:List AK:=[.agg [.any,.any,.sl .cell]]
abbrev q_gmay (k r:Int) (L:List CD):QA:=([.agg [.int .i64 k,.int .i64 r,.vec .cell L]],CWs L∧L.length≤1000000,.ret (.bool (jbo k r L)))
def sp_gmay:=spQ (u3 q_gmay)
theorem jll:W3 (hA sp_gmay) q_gmay:=w3 (aA rfl)
theorem jzf:Al 92 sp_gmay:=ofA (u3 q_gmay) fun⟨k,r,L⟩ hG=>tfi (.f [.any,.any] jgD jtI (.a jtJ jfT jtK (.f [.sl .cell] jhi jzb .nil))) 0 jh6 (by
 dsimp only[u3,q_gmay]at hG ⊢
 have zc:=Hk.mk (qaa @jlj (qaa @jlk (qaa @jrJ (qaa @tq0 (qaa @tq1 @tq2)))))
 obtain⟨hc,hl⟩:=hG
 have hf:jbr k r=true→(1≤k∧k≤80)∧(1≤r∧r≤24):=fun h=>by
  simp only[jbr,HB,ne_eq,reduceCtorEq]at h
  omega
 have hp:jbr k r=true→0≤k*r∧k*r≤1920:=fun h=>by
  obtain⟨⟨a1,a2⟩,a3,a4⟩:=hf h
  exact⟨qak (by omega) (by omega),qbg (Int.mul_le_mul_of_nonneg_right a2 (by omega)) (by omega)⟩
 repeat' first|refine tU ?_|refine qac [] [] rfl ?_|refine qaa ?_ ?_|(refine tI ?_;intro hyp)|intro hyp0|exact tZ|omega
 ·have:=hp hyp
  omega
 ·have:=hp hyp
  omega
 ·rcases hyp with q|q
  ·simp only[jbo,q,qal]
  ·simp only[jbo,ibeq,decide_eq_false q,qbd,qal]
 obtain⟨hfit,hlen⟩:=hyp
 obtain⟨⟨a1,a2⟩,a3,a4⟩:=hf hfit
 obtain⟨n,rfl⟩:∃n:Nat,k=n:=⟨k.toNat,by omega⟩
 obtain⟨m,rfl⟩:∃m:Nat,r=m:=⟨r.toNat,by omega⟩
 have hgr:jbo n m L=(qae m).all (fun y=>jcl (jax L n y)):=by
  simp only[jbo,hfit,ibeq,decide_eq_true hlen,qbe,qan]
 have hln:L.length=n*m:=by
  have:(L.length:Int)=((n*m:Nat):Int):=by rw[hlen];simp
  omega
 refine T.loop (fun y:Nat=>⟨[(1,.ptr 0 0 0),(22,.int .i64 m),(23,.int .i64 y)],[.box [.int .i64 n,.int .i64 m,.vec .cell L]]⟩) (fun y=>y≤m∧∀j,j<y→jcl (jax L n j)=true) (fun y=>m-y) 0 ⟨by omega,fun j hj=>by omega⟩ (qac [0] [] rfl (by simp only[PB,SAM,seval,rdB,Hk.out zc])) (fun y ⟨hy,hall⟩=>?_)
 have hrow:y<m→(y+1)*n≤L.length:=fun h=>by
  rw[hln,qba n m]
  exact qah n h
 have hcr:=jx8 hc n y
 have hrl:(jax L n y).length≤1000000:=by simp[jax];omega
 repeat' first|exact hcr|refine tU ?_|refine qac [] [] rfl ?_|refine qaa ?_ ?_|(refine tI ?_;intro hyp)|intro hyp0|exact tZ|omega
 ·rw[hgr,jbb (by omega:y<m) hyp]
 ·exact⟨y+1,⟨by omega,jdh (f:=fun j=>jcl (jax L n j)) hyp hall⟩,by omega,qac [0] [] rfl (by simp only[PB,SAM,seval,rdB,Hk.out zc];simp)⟩
 ·rw[hgr,jb9 (n:=m) (k:=y) (by omega) hall])
theorem jtM:Fre 92 sp_gmay:=ofF (u3 q_gmay) jzf fun _=>rfl
def jat (L:List CD) (k r:Nat):List (List CD):=(qae r).map (jax L k)
abbrev jtN:List AK:=[.agg [.any,.any,.sl .cell],.agg [.any,.any,.sl .cell]]
abbrev q_rsameg (k r:Int) (L:List CD) (k' r':Int) (L':List CD):QA:=([.agg [.int .i64 k,.int .i64 r,.vec .cell L],.agg [.int .i64 k',.int .i64 r',.vec .cell L']],L.length≤4611686018427387904∧L'.length≤4611686018427387904,.ret (.bool (decide (k=k')&&decide (r=r')&&decide (L=L'))))
def sp_rsameg:=spQ (u6 q_rsameg)
theorem jnG:W6 (hA sp_rsameg) q_rsameg:=w6 (aA rfl)
theorem jtO:Al 35 sp_rsameg:=ofA (u6 q_rsameg) fun⟨k,r,L,k',r',L'⟩ hG=>tfi (.f [.sl .cell,.sl .cell] jlc jwL .nil) 0 jli (by
 dsimp only[u6,q_rsameg]at hG ⊢
 have zc:=Hk.mk (qaa @jo2 (qaa @tq0 (qaa @tq1 @tq2)))
 obtain⟨h1,h2⟩:=hG
 repeat' first|refine tU ?_|refine qac [] [] rfl ?_|refine qaa ?_ ?_|(refine tI ?_;intro hyp)|intro hyp0|exact tZ|omega)
theorem jtP:Fre 35 sp_rsameg:=ofF (u6 q_rsameg) jtO fun _=>rfl
abbrev jzg:List AK:=[.agg [.any,.any,.sl .cell]]
abbrev q_rows (k r:Int) (L:List CD):QA:=([.agg [.int .i64 k,.int .i64 r,.vec .cell L]],CWs L∧L.length≤1000000,.ret (.tup [.vec (.rows .cell) (if jbo k r L then jat L k.toNat r.toNat else []),.bool (jbo k r L)]))
def sp_rows:=spQ (u3 q_rows)
theorem jrR:W3 (hA sp_rows) q_rows:=w3 (aA rfl)
theorem jzh:Al 36 sp_rows:=ofA (u3 q_rows) fun⟨k,r,L⟩ hG=>tfi (.f [.sl .cell] jlb jwN (.f [.sl .cell] jiv jzd .nil)) 0 jlh (by
 dsimp only[u3,q_rows]at hG ⊢
 have zc:=Hk.mk (qaa @jo3 (qaa @jrK (qaa @tq0 (qaa @tq1 @tq2))))
 obtain⟨hc,hl⟩:=hG
 have hf:jbr k r=true→(1≤k∧k≤80)∧(1≤r∧r≤24):=fun h=>by
  simp only[jbr,HB,ne_eq,reduceCtorEq]at h
  omega
 have hp:(1≤k∧k≤80)∧(1≤r∧r≤24)→0≤k*r∧k*r≤1920:=fun⟨⟨a1,a2⟩,a3,a4⟩ =>
  ⟨qak (by omega) (by omega),qbg (Int.mul_le_mul_of_nonneg_right a2 (by omega)) (by omega)⟩
 have hg0:(((k<1∨80<k)∨r<1)∨24<r)∨¬(L.length:Int)=k*r→jbo k r L=false:=fun h=>by
  rcases h with h|h
  ·have:jbr k r=false:=by
    cases e:jbr k r with
    | false=>rfl
    | true=>have:=hf e;omega
   simp only[jbo,this,qal]
  ·simp only[jbo,ibeq,decide_eq_false h,qbd,qal]
 repeat' first|refine tU ?_|refine qac [] [0,1,2,3,4,5,6,7,8,9] rfl ?_|refine qaa ?_ ?_|(refine tI ?_;intro hyp)|intro hyp0|exact tZ|omega
 ·rw[hg0 hyp]
  rfl
 ·exact (hg0 hyp).symm
 obtain⟨hfit,hlen⟩:=hyp
 obtain⟨n,rfl⟩:∃n:Nat,k=n:=⟨k.toNat,by omega⟩
 obtain⟨m,rfl⟩:∃m:Nat,r=m:=⟨r.toNat,by omega⟩
 have hfb:jbr n m=true:=by simp only[jbr,HB,ne_eq,reduceCtorEq];omega
 have hgr:jbo n m L=(qae m).all (fun y=>jcl (jax L n y)):=by
  simp only[jbo,hfb,ibeq,decide_eq_true hlen,qbe,qan]
 have hln:L.length=n*m:=by
  have:(L.length:Int)=((n*m:Nat):Int):=by rw[hlen];simp
  omega
 refine T.loop (fun y:Nat=>⟨[(1,.ptr 0 0 0),(4,.slice 1 0 1 y y),(5,.int .i64 y)],[.box [.int .i64 n,.int .i64 m,.vec .cell L],.seq (.rows .cell) (jat L n y)]⟩) (fun y=>y≤m∧∀j,j<y→jcl (jax L n j)=true) (fun y=>m-y) 0 ⟨by omega,fun j hj=>by omega⟩ (qac [0,1] [] rfl (by simp only[PB,SAM,seval,rdB,Hk.out zc];simp[jat])) (fun y ⟨hy,hall⟩=>?_)
 have hrow:y<m→(y+1)*n≤L.length:=fun h=>by
  rw[hln,qba n m]
  exact qah n h
 have hcr:=jx8 hc n y
 have hrl:(jax L n y).length≤1000000:=by simp[jax];omega
 have hml:(jat L n y).length=y:=by simp[jat]
 have hmf:y<m→0≤(y:Int)*n∧(y:Int)*n≤1000000∧(y:Int)*n+n≤L.length:=fun h=>by
  have:=jei (hrow h)
  omega
 have hw:((y:Int)*n+n).toNat=y*n+n:=by rw[←tq0,←Int.toNat_add_nat (qak (by omega) (by omega))]
 have hw3:qbh y (jat L n y)=jat L n y:=qag (by omega)
 have hw2:qbh n (List.drop (y*n) L)=jax L n y:=rfl
 have hno:y<m→jcl (jax L n y)=false→jbo n m L=false:=fun h q=>by rw[hgr,jbb h q]
 have hye:¬y<m→jbo n m L=true:=fun h=>by rw[hgr,jb9 (n:=m) (k:=y) h hall]
 repeat' first|exact hcr|refine tU ?_|refine qac [] [0,1,2,3,4,5,6,7,8,9] rfl ?_|refine qaa ?_ ?_|(refine tI ?_;intro hyp)|intro hyp0|exact tZ|omega
 ·rw[hno (by omega) hyp]
  rfl
 ·exact (hno (by omega) hyp).symm
 ·refine⟨y+1,⟨by omega,jdh (f:=fun j=>jcl (jax L n j)) hyp hall⟩,by omega,qac [0,3] [] rfl ?_⟩
  have:jat L n (y+1)=jat L n y++[jax L n y]:=by simp[jat,qar]
  simp only[PB,SAM,seval,rdB,Hk.out zc,this,hml]
  simp
 ·obtain rfl:y=m:=by omega
  rw[hye (by omega)]
  rfl
 ·exact (hye (by omega)).symm)
abbrev q_rblanks (n:Nat) (p:PD):QA:=([.int .i64 n,penV p],n≤1000000,.ret (.vec .cell (qab n (jdL p))))
def sp_rblanks:=spQ (u2 q_rblanks)
theorem jmy:W2 (hA sp_rblanks) q_rblanks:=w2 (aA rfl)
theorem jrS:Fre 97 sp_rblanks:=ofT (u2 q_rblanks) fun⟨n,p⟩ hG=>tfi (.f [.any] jjU jtA .nil) 0 jix (by
 dsimp only[u2,q_rblanks]at hG ⊢
 have zc:=Hk.mk (qaa @jnD (qaa @tq0 (qaa @tq1 @tq2)))
 repeat' first|refine tU ?_|refine Cos.row (t:=.cell) rfl ?_ rfl (Nat.le_refl _)|refine qaa ?_ ?_|(refine tI ?_;intro hyp)|intro hyp0|exact tZ|omega
 refine T.loop (fun k:Nat=>⟨[(3,.ptr 0 0 0),(5,.slice 1 0 6 n n),(10,.int .i64 n),(11,.int .i64 k)],[.box [.int .u32 p.fg,.int .u32 p.bg,.int .u8 p.attrs,.int .u16 p.link],.seq .cell (qab k (jdL p)++qab (n-k) default)]⟩) (fun k=>k≤n) (fun k=>n-k) 0 (by omega) (qac [0,1] [] rfl (by simp only[PB,SAM,seval,rdB,Hk.out zc];simp)) (fun k hk=>?_)
 repeat' first|refine tU ?_|refine qaa ?_ ?_|(refine tI ?_;intro hyp)|intro hyp0|exact tZ|omega
 ·exact⟨k+1,by omega,by omega,qac [0,1] [] rfl (by rw[jAP n k (by omega)];simp only[PB,SAM,seval,rdB,Hk.out zc];simp)⟩
 ·obtain rfl:k=n:=by omega
  exact Cos.rowl (t:=.cell) (L:=qab k (jdL p)) rfl (by simp) (by simp) (by simp) (by simp))
abbrev q_rgof (M:List (List CD)):QA:=([.vec (.rows .cell) M],M.flatten.length≤1000000∧M.length≤1000000,.ret (.agg [.int .i64 (M.getLastD []).length,.int .i64 M.length,.vec .cell M.flatten]))
def sp_rgof:=spQ (u1 q_rgof)
theorem jrT:W1 (hA sp_rgof) q_rgof:=w1 (aA rfl)
theorem jzi:Fre 78 sp_rgof:=ofT (u1 q_rgof) fun M hG=>tfi .nil 0 jqi (by
 dsimp only[u1,q_rgof]at hG ⊢
 have zc:=Hk.mk (qaa @tq0 (qaa @tq1 @tq2))
 obtain⟨hl,hm⟩:=hG
 repeat' first|refine tU ?_|refine qaa ?_ ?_|(refine tI ?_;intro hyp)|intro hyp0|exact tZ|omega
 refine T.loop (fun y:Nat=>⟨[(0,.vec (.rows .cell) M),(2,.ptr 0 0 0),(3,.ptr 1 0 0),(9,.int .i64 M.length),(10,.int .i64 y)],[.box [.int .i64 0,.int .i64 0,.nils],.box [.int .i64 ((M.take y).getLastD []).length,.int .i64 M.length,.slice 2 0 6 (M.take y).flatten.length (M.take y).flatten.length],.seq .cell (M.take y).flatten]⟩) (fun y=>y≤M.length) (fun y=>M.length-y) 0 (by omega) (qac [0,1,99] [] rfl (by simp only[PB,SAM,seval,rdB,Hk.out zc];simp[crs,crsL,jaM])) (fun y hy=>?_)
 have htk:y<M.length→M.take (y+1)=M.take y++[M.getD y []]:=fun h=>jnw h
 have hfl:y<M.length→(M.take y).flatten.length+(M.getD y []).length≤1000000:=fun h=>by
  have e:M.flatten=(M.take (y+1)).flatten++(M.drop (y+1)).flatten:=by rw[←qaj,qas]
  have:=congrArg List.length e
  rw[htk h]at this
  simp only[qaj,qad,qaf,qbb,List.append_nil]at this
  omega
 repeat' first|refine tU ?_|refine qaa ?_ ?_|(refine tI ?_;intro hyp)|intro hyp0|exact tZ|omega
 ·refine⟨y+1,by omega,by omega,qac [0,1,3] [] rfl ?_⟩
  rw[htk (by omega)]
  simp only[PB,SAM,seval,rdB,Hk.out zc,qaj,qaf,qbb]
  simp
 ·have e:M.take y=M:=qag (by omega)
  rw[e]
  exact qac [2] [] rfl (by simp only[PB,SAM,seval,rdB,Hk.out zc];simp))
def pen0:PD:=⟨0,0,0,0⟩
abbrev blank0:CD:=⟨32,0,0,0,0,0⟩
abbrev q_gnew (k r:Int):QA:=([.int .i64 k,.int .i64 r],True,.ret (if jbr k r then .tup [.agg [.int .i64 k,.int .i64 r,.vec .cell (qab (k.toNat*r.toNat) blank0)],.int .i64 0] else .tup [.agg [.int .i64 0,.int .i64 0,.vec .cell []],.int .i64 1]))
def sp_gnew:=spQ (u2 q_gnew)
theorem jlm:W2 (hA sp_gnew) q_gnew:=w2 (aA rfl)
theorem jtQ:Al 189 sp_gnew:=ofA (u2 q_gnew) fun⟨k,r⟩ hG=>tfi (.f [.any,.any] jgD jtI (.f [.any] jdJ jjV .nil)) 0 jh7 (by
 dsimp only[u2,q_gnew]at hG ⊢
 have zc:=Hk.mk (qaa @jlj (qaa @jfp (qaa @tq0 (qaa @tq1 @tq2))))
 cases hw:jbr k r
 ·repeat' first|refine tU ?_|refine qac [] [0,1,2,3,4,5,6,7,8,9] rfl ?_|refine qaa ?_ ?_|(refine tI ?_;intro hyp)|intro hyp0|exact tZ|omega
 ·have hfit:(1≤k∧k≤80)∧(1≤r∧r≤24):=by
   simp only[jbr,HB,ne_eq,reduceCtorEq]at hw
   omega
  obtain⟨n,rfl⟩:∃n:Nat,k=n:=⟨k.toNat,by omega⟩
  obtain⟨m,rfl⟩:∃m:Nat,r=m:=⟨r.toNat,by omega⟩
  have hp:(n:Int)*m≤1920∧n*m≤1920∧(0:Int)≤(n:Int)*m:=by
   have h1:n*m≤80*24:=Nat.mul_le_mul (by omega) (by omega)
   have h2:((n*m:Nat):Int)=(n:Int)*m:=by simp
   omega
  have hcast:((n*m:Nat):Int)=(n:Int)*m:=by simp
  repeat' first|refine tU ?_|refine qac [] [0,1,2,3,4,5,6,7,8,9] rfl ?_|refine qaa ?_ ?_|(refine tI ?_;intro hyp)|intro hyp0|exact tZ|omega
  refine T.loop (fun i:Nat=>⟨[(4,.ptr 0 0 0),(6,.ptr 1 0 0),(22,.int .i64 (n*m:Nat)),(23,.int .i64 i)],[.box [.int .i64 0,.int .i64 0,.nils],.box [.int .i64 n,.int .i64 m,.slice 2 0 6 (n*m) (n*m)],.seq .cell (qab i blank0++qab (n*m-i) default)]⟩) (fun i=>i≤n*m) (fun i=>n*m-i) 0 (by omega) (qac [0,2,1] [] rfl (by simp only[PB,SAM,seval,rdB,Hk.out zc];simp)) (fun i hi=>?_)
  have hw3:jdL { fg:=0,bg:=0,attrs:=0,link:=0 }=blank0:=rfl
  repeat' first|refine tU ?_|refine qaa ?_ ?_|(refine tI ?_;intro hyp)|intro hyp0|exact tZ|omega
  ·refine⟨i+1,by omega,by omega,qac [0,1,2] [] rfl ?_⟩
   rw[jAP _ i (by omega)]
   simp only[PB,SAM,seval,rdB,Hk.out zc]
   simp
  ·obtain rfl:i=n*m:=by omega
   exact qac [] [2] rfl (by simp only[PB,SAM,seval,rdB,Hk.out zc];simp))
end
section
open Go.RowKit
set_option maxRecDepth 100000
set_option maxHeartbeats 4000000
theorem jcb {cols rows:Int}:jbr cols rows=true↔(1≤cols∧cols≤80∧1≤rows∧rows≤24):=by
 unfold jbr
 simp[and_assoc]
theorem jbd {L:List CD}{cols rows y:Nat}(hL:L.length=cols*rows) (hy:y<rows):(jax L cols y).length=cols:=by
 unfold jax
 rw[List.length_take,List.length_drop,hL]
 have h1:(y+1)*cols≤cols*rows:=by rw[qba cols rows];exact qah _ (by omega)
 rw[qat]at h1
 omega
theorem jej {L:List CD}{cols y:Nat}{q:CD}(h:q∈jax L cols y):q∈L:=qav (qaw h)
structure CWf (c:CD):Prop where
 rune:-2147483648≤c.rune∧c.rune≤2147483647
 wide:0≤c.wide∧c.wide<256
 fg:0≤c.fg∧c.fg<4294967296
 bg:0≤c.bg∧c.bg<4294967296
 attrs:0≤c.attrs∧c.attrs<256
 link:0≤c.link∧c.link<65536
def varN (n:Nat):List Int:=if n<128 then [(n:Int)] else ((n % 128+128:Nat):Int)::varN (n / 128)
termination_by n
decreasing_by omega
theorem jda {n:Nat}(h:n<128):varN n=[(n:Int)]:=by rw[varN,if_pos h]
theorem jfU {n:Nat}(h:¬n<128):varN n=((n % 128+128:Nat):Int)::varN (n / 128):=by rw[varN,if_neg h]
theorem jfV (n:Nat):∀k,n<128 ^ (k+1)→(varN n).length≤k+1:=by
 intro k
 induction k generalizing n with
 | zero=>intro h;rw[jda (by simpa using h)];simp
 | succ k ih =>
  intro h
  by_cases h0:n<128
  ·rw[jda h0];simp
  ·rw[jfU h0,qao]
   have:=ih (n / 128) (by rw[Nat.pow_succ]at h;omega)
   omega
theorem jaO (n:Nat) (h:n<18446744073709551616):(varN n).length≤10:=jfV n 9 (by omega)
theorem jwQ (n:Nat):0<(varN n).length:=by
 rw[varN]
 split<;>simp
theorem jtR:∀a:Fin 256,a.val ||| 128=a.val % 128+128:=by decide
def jar (l:List Nat):List Int:=l.flatMap varN
theorem jbe (l:List Nat) (h:∀x∈l,x<9223372036854775808):(jar l).length≤10*l.length:=by
 induction l with
 | nil=>simp[jar]
 | cons x l ih =>
  have h1:=jaO x (by have:=h x (by simp);omega)
  have h2:=ih (fun y hy=>h y (qai _ hy))
  simp only[jar,qaz,qad,qao]at h2 ⊢
  omega
def jf8 (bs:List Int):List Int:=varN bs.length++bs
theorem ji5 (t:ByteArray):jas (jac t)=t:=by
 have:∀x:ByteArray,jas (x.data.toList.map fun b=>(b.toNat:Int))=x:=fun x=>by
  unfold jas
  rw[List.map_map]
  have e:((fun n:Int=>UInt8.ofNat n.toNat) ∘ fun b:UInt8=>(b.toNat:Int))=id:=by
   funext b
   simp
  rw[e]
  simp
 exact this t
theorem jdj (t:ByteArray):∀b∈jac t,Utf.Byte b:=fun b hb=>by
 obtain⟨x,_,rfl⟩:=List.mem_map.1 hb
 have:=x.toNat_lt
 exact⟨by omega,by omega⟩
def jfr (t:ByteArray):Bool:=Utf.vB (jac t)&&(qae (Utf.runes (jac t)).length).all (fun i=>Utf.width ((Utf.runes (jac t)).getD i 0) != 0)
theorem jzj (r:Int) (hm:Utf.may r=true):Utf.num (Utf.enc r)=r:=by
 have he:Utf.enc r=Utf.enc1 r:=by unfold Utf.enc;rw[if_pos hm]
 rw[he]
 rcases Utf.enc_cases r hm with⟨a,e,h⟩|⟨a,b,e,h⟩|⟨a,b,d,e,h⟩|⟨a,b,d,c,e,h⟩
 ·rw[e]
  show a=r
  omega
 ·rw[e]
  show (a-192)*64+b-128=r
  omega
 ·rw[e]
  show (a-224)*4096+(b-128)*64+d-128=r
  omega
 ·rw[e]
  show (a-240)*262144+(b-128)*4096+(d-128)*64+c-128=r
  omega
theorem jjZ (t:ByteArray) (h:Utf.vB (jac t)=true):∃rs:List Int,rs=Utf.runes (jac t)∧jac t=rs.flatMap Utf.enc∧∀r∈rs,Utf.may r=true:=by
 obtain⟨qs,hq⟩:=Utf.encs_of_vB _ (jac t) (Nat.le_refl _) h
 refine⟨Utf.runes (jac t),rfl,?_,?_⟩
 ·rw[hq,Utf.runes_encs,Utf.flatMap_fix]
 ·rw[hq,Utf.runes_encs]
  intro r hr
  obtain⟨x,_,rfl⟩:=List.mem_map.1 hr
  exact Utf.fix_may x
theorem jo4 (t:ByteArray) (rs:List Int) (h:jac t=rs.flatMap Utf.enc) (hm:∀r∈rs,Utf.may r=true){j:Nat}{u:Int}(hu:rs[j]?=some u) :
  ((rs.take j).flatMap Utf.enc).length<t.size∧(Utf8.decode t ((rs.take j).flatMap Utf.enc).length).2+((rs.take j).flatMap Utf.enc).length=((rs.take (j+1)).flatMap Utf.enc).length∧((Utf8.decode t ((rs.take j).flatMap Utf.enc).length).1:Int)=u:=by
 have hj:=(List.getElem?_eq_some_iff.1 hu).1
 have hsp:rs=rs.take j++u::rs.drop (j+1):=by
  have:=qas j rs
  rw[qam hj]at this
  rw[show rs[j]=u from (List.getElem?_eq_some_iff.1 hu).2]at this
  exact this.symm
 have hbs:jac t=(rs.take j).flatMap Utf.enc++(Utf.enc u++(rs.drop (j+1)).flatMap Utf.enc):=by
  rw[h]
  conv=>lhs;rw[hsp]
  simp[qax,qaz]
 obtain⟨p,hp⟩:∃p,p=((rs.take j).flatMap Utf.enc).length:=⟨_,rfl⟩
 have hpos:0<(Utf.enc u).length:=List.length_pos_iff.2 (Utf.enc_ne u)
 have hlen:(jac t).length=t.size:=jay t
 have hpl:p<(jac t).length:=by rw[hbs,qad,qad,←hp];omega
 have hd:=Utf.decode_str (jac t) (jdj t) p hpl
 have hdr:(jac t).drop p=Utf.enc u++(rs.drop (j+1)).flatMap Utf.enc:=by rw[hbs,hp,List.drop_left]
 have hst:Utf.step ((jac t).drop p)=(Utf.enc u).length:=by
  rw[hdr]
  refine Utf.step_enc u _ fun x hx=>jdj t x ?_
  rw[hbs]
  exact qau _ (qau _ hx)
 rw[ji5,hst,if_neg (by omega),if_neg (by omega)]at hd
 rw[hdr,List.take_left,jzj u (hm u (List.mem_of_getElem? hu))]at hd
 refine⟨by rw[←hp];omega,?_,by rw[←hp];exact hd.2⟩
 rw[←hp,hd.1,take_snoc_get' hu]
 simp[qax,←hp]
 omega
where
 take_snoc_get' {rs:List Int}{j:Nat}{u:Int}(hu:rs[j]?=some u):rs.take (j+1)=rs.take j++[u]:=by
  rw[List.take_add_one,hu]
  rfl
def jal (k r:Int) (L:List CD) (x y mo:Int) (ti:ByteArray) (l:List ByteArray):Bool :=
 jbo k r L&&jbu L l&&decide (0≤x)&&decide (x<k)&&decide (0≤y)&&decide (y<r)&&decide (mo≤2)&&decide (ti.size≤64)&&jfr ti
theorem jbR (L:List CD) (k r:Nat):(jat L k r).length=r:=by simp[jat]
theorem jbc {α:Type}(f:Nat→α) (y:Nat):(qae (y+1)).map f=(qae y).map f++[f y]:=by simp[qar]
def half (f:CD→CD) (L:List CD) (i:Nat):List CD:=(L.take i).map f++L.drop i
theorem jqj (f:CD→CD) (L:List CD) (i:Nat):(half f L i).length=L.length:=by simp[half];omega
theorem jwR (f:CD→CD) (L:List CD) (i:Nat) (h:L.length≤i):half f L i=L.map f:=by simp[half,qag h,List.drop_of_length_le h]
theorem jqk (f:CD→CD){L:List CD}{i:Nat}{q:CD}(h:L[i]?=some q):(half f L i)[i]?=some q:=by
 have hi:=(List.getElem?_eq_some_iff.1 h).1
 unfold half
 rw[List.getElem?_append_right (by simp;omega),List.getElem?_drop]
 have:i+(i-(List.map f (qbh i L)).length)=i:=by simp;omega
 rw[this,h]
theorem jql (f:CD→CD){L:List CD}{i:Nat}{q:CD}(h:L[i]?=some q):(half f L i).set i (f q)=half f L (i+1):=by
 have hi:=(List.getElem?_eq_some_iff.1 h).1
 have hd:L.drop i=q::L.drop (i+1):=by
  rw[qam hi]
  congr 1
  exact (List.getElem?_eq_some_iff.1 h).2
 unfold half
 have hl:((L.take i).map f).length=i:=by simp;omega
 rw[qap _ _ (by omega),hl,qbf,hd,qay,jav h,List.map_append,List.append_assoc]
 rfl
def ulf (bl links:List ByteArray) (c:CD):CD:=if 0<c.link then c.withLink (jaq links (sAt bl (c.link-1).toNat)+1) else c
def jfd (S:List CD) (j:Int):CD:=if 0≤j∧j<S.length then cAt S j.toNat else blank0
def cntF (f g:Nat→CD) (t:Nat):Nat:=(qae t).countP fun i=>!jfS (f i) (g i)
theorem jtS (f g:Nat→CD) (t:Nat):cntF f g (t+1)=cntF f g t+if jfS (f t) (g t) then 0 else 1:=by
 unfold cntF
 rw[qar,List.countP_append,List.countP_singleton]
 cases jfS (f t) (g t)<;>rfl
theorem jtT (f g:Nat→CD) (t:Nat):cntF f g t≤t:=by
 unfold cntF
 have:=List.countP_le_length (p:=fun i=>!jfS (f i) (g i)) (l:=qae t)
 rwa [List.length_range]at this
def jek (d:Int→Nat) (st:Int×Nat) (k:Int):Int×Nat:=if d k<st.2 then (k,d k) else st
def jdZ (d:Int→Nat):Nat→Int×Nat
 | 0=>(0,d 0)
 | n+1=>jek d (jek d (jdZ d n) ((n+1:Nat):Int)) (-((n+1:Nat):Int))
def innB (d:Int→Nat) (st:Int×Nat) (n:Int) (j:Nat):Int×Nat:=if j=0 then st else if j=1 then jek d st n else jek d (jek d st n) (-n)
def dist (k r:Nat) (L1 L2:List CD) (m:Int):Nat:=cntF (fun i=>jfd L1 (i+m*k)) (cAt L2) (k*r)
theorem jeP (d:Int→Nat) (st:Int×Nat) (k:Int):(d k<st.2→jek d st k=(k,d k))∧(¬d k<st.2→jek d st k=st):=by
 unfold jek
 exact⟨fun h=>if_pos h,fun h=>if_neg h⟩
def mAt (M:List (List CD)) (i:Nat):List CD:=M.getD i []
theorem jln {M:List (List CD)}{i:Nat}{l:List CD}(h:M[i]?=some l):mAt M i=l:=by simp[mAt,List.getD_eq_getElem?_getD,h]
def jrU (M:List (List CD)) (m:Int) (y:Nat):List CD:=if 0≤(y:Int)+m∧(y:Int)+m<M.length then mAt M ((y:Int)+m).toNat else qab (mAt M y).length blank0
def jbi (M:List (List CD)) (m:Int):List (List CD):=(qae M.length).map (jrU M m)
theorem jo5 (M:List (List CD)) (m:Int):(jbi M m).length=M.length:=by simp[jbi]
theorem jqm {k:Nat}:∀(M:List (List CD)),(∀l∈M,l.length=k)→∀y x,y<M.length→x<k→M.flatten[y*k+x]?=(mAt M y)[x]?
 | [],h,y,x,hy,hx=>by simp at hy
 | l::M,h,0,x,hy,hx=>by
  have hl:=h l (by simp)
  rw[qaf,Nat.zero_mul,Nat.zero_add,List.getElem?_append_left (by omega)]
  rfl
 | l::M,h,y+1,x,hy,hx=>by
  have hl:=h l (by simp)
  have ih:=jqm M (fun q hq=>h q (qai _ hq)) y x (by simpa using hy) hx
  rw[qaf,List.getElem?_append_right (by rw[hl,qat];omega),hl,show (y+1)*k+x-k=y*k+x by rw[qat];omega,ih]
  rfl
theorem jj0 {k:Nat}:∀(M:List (List CD)),(∀l∈M,l.length=k)→M.flatten.length=M.length*k
 | [],h=>by simp
 | l::M,h=>by
  have ih:=jj0 M (fun q hq=>h q (qai _ hq))
  rw[qaf,qad,ih,h l (by simp),qao,qat,Nat.add_comm]
structure Rect (M:List (List CD)) (k r:Nat):Prop where
 len:M.length=r
 row:∀l∈M,l.length=k
theorem Rect.at_ {M:List (List CD)}{k r:Nat}(h:Rect M k r){y:Nat}(hy:y<r):(mAt M y).length=k∧mAt M y∈M:=by
 have hy':y<M.length:=by rw[h.len];exact hy
 have e:=jln (List.getElem?_eq_getElem hy')
 have hm:mAt M y∈M:=by rw[e];exact List.getElem_mem hy'
 exact⟨h.row _ hm,hm⟩
theorem ji6 {M:List (List CD)}{k r:Nat}(h:Rect M k r) (m:Int):Rect (jbi M m) k r:=by
 refine⟨by rw[jo5,h.len],fun l hl=>?_⟩
 obtain⟨y,hy,rfl⟩:=List.mem_map.1 hl
 have hy':y<r:=by rw[←h.len];exact List.mem_range.1 hy
 unfold jrU
 split
 ·rename_i hh
  refine (h.at_ (y:=((y:Int)+m).toNat) ?_).1
  rw[h.len]at hh
  omega
 ·rw[qaq]
  exact (h.at_ hy').1
theorem jo6 {M:List (List CD)}:jbi M 0=M:=by
 unfold jbi
 refine List.ext_getElem (by simp) fun i h1 h2=>?_
 rw[List.getElem_map,List.getElem_range]
 unfold jrU
 rw[if_pos (by simp at h1;omega),Int.add_zero,qan]
 exact jln (List.getElem?_eq_getElem h2)
end
end
end Go.Proofs.YtienkkicehmchaaGreatDoor
