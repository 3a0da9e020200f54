/- Texts of this claim, merged by a program of this claim: FGrid. -/
import Derived.Test.YtienkkicehmchaaGreatDoorDl12
import Derived.Test.YtienkkicehmchaaGreatDoorDl5
import Derived.Test.YtienkkicehmchaaGreatDoorDl6
import Derived.Test.YtienkkicehmchaaGreatDoorDl7
namespace Go.Proofs.YtienkkicehmchaaGreatDoor
open And renaming intro→qaa
open Cos renaming intro→qab
open List renaming replicate→qac,flatten_append→qad,take_of_length_le→qag,range→qah,flatten_cons→qaj,flatten_nil→qak
open Int renaming mul_nonneg→qae,toNat_natCast→qai,le_trans→qan
open Bool renaming false_and→qaf,and_false→qal,true_and→qam
noncomputable section
set_option linter.unusedVariables false
set_option linter.unusedSimpArgs false
section
open Go.RowKit
set_option maxRecDepth 100000
set_option maxHeartbeats 4000000
theorem jx2 {α:Type}(n k:Nat) (h:k<n) (a d:α):(qac k a++qac (n-k) d).set k a=qac (k+1) a++qac (n-(k+1)) d:=by
 rw[List.set_append_right _ _ (by simp),show n-k=n-(k+1)+1 by omega,List.replicate_succ,List.length_replicate,Nat.sub_self,List.set_cons_zero,List.replicate_succ']
 simp
theorem Cos.rowl {h:KH}{i n c l:Nat}{t:ETy}{M L:List t.T}(hb:h.get i=.seq t M) (e:M=L) (hn:n=M.length) (hc:M.length≤c) (hl:L.length=l):Cos 0 ⟨[(0,.slice i 0 t.esz n c)],h⟩ ⟨[(0,.slice 0 0 t.esz l l)],[.seq t L]⟩:=by
 subst hl
 exact Cos.row hb e hn hc
theorem tq0 (a b:Nat):((a:Int)*(b:Int)).toNat=a*b:=by rw[←Int.natCast_mul];rfl
theorem tq1 (a b:Nat):(((a:Int)+1)*(b:Int)).toNat=(a+1)*b:=tq0 (a+1) b
theorem tq2 (a b:Nat):(a+1)*b-a*b=b:=by rw[Nat.add_mul];omega
def jb5 (cols rows:Int):Bool:=decide (1≤cols)&&decide (cols≤80)&&decide (1≤rows)&&decide (rows≤24)
def jas (L:List CD) (cols y:Nat):List CD:=(L.drop (y*cols)).take cols
def jbo (cols rows:Int) (L:List CD):Bool:=jb5 cols rows&&((L.length:Int)==cols*rows)&&(qah rows.toNat).all (fun y=>jb0 (jas L cols.toNat y))
theorem jvJ {L:List CD}(h:CWs L) (n y:Nat):CWs (jas L n y):=fun c hc=>h c (List.mem_of_mem_drop (List.mem_of_mem_take hc))
theorem jch {y n N:Nat}(h:(y+1)*n≤N):0≤(y:Int)*n∧(y:Int)*n≤N∧0≤((y:Int)+1)*n∧((y:Int)+1)*n≤N∧((y:Int)+1)*n=y*n+n:=by
 have h1:((y:Int)+1)*n=y*n+n:=by rw[Int.add_mul,Int.one_mul]
 have h2:(0:Int)≤(y:Int)*n:=qae (by omega) (by omega)
 have h3:(((y+1)*n:Nat):Int)=((y:Int)+1)*n:=by simp
 omega
abbrev q_fits (k r:Int):QA:=([.int .i64 k,.int .i64 r],True,.ret (.bool (jb5 k r)))
def sp_fits:=spQ (u2 q_fits)
theorem jkp:W2 (hA sp_fits) q_fits:=w2 (aA rfl)
theorem jwO:Al 125 sp_fits:=ofA (u2 q_fits) fun⟨k,r⟩ hG=>tfi .nil 0 jfK (by
 dsimp only[u2,q_fits]at hG ⊢
 have zc:=Hk.mk (qaa @tq0 (qaa @tq1 @tq2))
 repeat' first|refine tU ?_|refine qab [] [] rfl ?_|refine qaa ?_ ?_|(refine tI ?_;intro hyp)|intro hyp0|exact tZ|omega
 rfl)
theorem jsa:Fre 125 sp_fits:=ofF (u2 q_fits) jwO fun _=>rfl
abbrev jsb:List AK:=[.agg [.any,.any,.sl .cell],.any]
abbrev q_grow (n:Nat) (r:Int) (L:List CD) (y:Nat):QA:=([.agg [.int .i64 n,.int .i64 r,.vec .cell L],.int .i64 y],(y+1)*n≤L.length∧L.length≤1000000∧y≤1000000,.ret (.vec .cell (jas L n y)))
def sp_grow:=spQ (u4 q_grow)
theorem jkq:W4 (hA sp_grow) q_grow:=w4 (aA rfl)
theorem jsc:Al 127 sp_grow:=ofA (u4 q_grow) fun⟨n,r,L,y⟩ hG=>tfi .nil 0 je6 (by
 dsimp only[u4,q_grow]at hG ⊢
 have zc:=Hk.mk (qaa @tq0 (qaa @tq1 @tq2))
 obtain⟨h1,h2,h4⟩:=hG
 have hm:=jch h1
 have hm2:(y+1)*n=y*n+n:=by rw[Nat.add_mul];omega
 have hy:y*n≤1000000:=by omega
 repeat' first|refine tU ?_|refine qab [] [0,1,2,3,4,5,6,7,8,9] rfl ?_|refine qaa ?_ ?_|(refine tI ?_;intro hyp)|intro hyp0|exact tZ|omega
 rfl)
abbrev q_growM (n:Nat) (r:Int) (L:List CD) (y i m c:Nat):QM:=(([.agg [.int .i64 n,.int .i64 r,.slice 0 i 6 m c],.int .i64 y],[.seq .cell L]),(y+1)*n≤m∧m≤c∧c≤1000000∧y≤1000000,.ret (.slice 0 (i+y*n) 6 n n),[.seq .cell L])
def msp_growM:=mspQ (u7 q_growM)
theorem jmp:W7 (hM msp_growM) q_growM:=w7 (aM rfl)
theorem juF:Mu 127 msp_growM:=ofM (u7 q_growM) fun⟨n,r,L,y,i,m,c⟩ hG=>tfi .nil 1 je6 (by
 dsimp only[u7,q_growM]at hG ⊢
 have zc:=Hk.mk (qaa @tq0 (qaa @tq1 @tq2))
 obtain⟨h1,h2,h3,h4⟩:=hG
 have hm:=jch h1
 have hm2:(y+1)*n=y*n+n:=by rw[Nat.add_mul];omega
 have hy:y*n≤1000000:=by omega
 repeat' first|refine tU ?_|refine qab [0] [] rfl ?_|refine qaa ?_ ?_|(refine tI ?_;intro hyp)|intro hyp0|exact tZ|omega)
abbrev jsd:List AK:=[.agg [.any,.any,.sl .cell]]
abbrev q_gmay (k r:Int) (L:List CD):QA:=([.agg [.int .i64 k,.int .i64 r,.vec .cell L]],CWs L∧L.length≤1000000,.ret (.bool (jbo k r L)))
def sp_gmay:=spQ (u3 q_gmay)
theorem jkr:W3 (hA sp_gmay) q_gmay:=w3 (aA rfl)
theorem jwP:Al 92 sp_gmay:=ofA (u3 q_gmay) fun⟨k,r,L⟩ hG=>tfi (.f [.any,.any] jfK jsa (.a jsb je6 jsc (.f [.sl .cell] jgi jwL .nil))) 0 jg3 (by
 dsimp only[u3,q_gmay]at hG ⊢
 have zc:=Hk.mk (qaa @jkp (qaa @jkq (qaa @jqg (qaa @tq0 (qaa @tq1 @tq2)))))
 obtain⟨hc,hl⟩:=hG
 have hf:jb5 k r=true→(1≤k∧k≤80)∧(1≤r∧r≤24):=fun h=>by
  simp only[jb5,HB,ne_eq,reduceCtorEq]at h
  omega
 have hp:jb5 k r=true→0≤k*r∧k*r≤1920:=fun h=>by
  obtain⟨⟨a1,a2⟩,a3,a4⟩:=hf h
  exact⟨qae (by omega) (by omega),qan (Int.mul_le_mul_of_nonneg_right a2 (by omega)) (by omega)⟩
 repeat' first|refine tU ?_|refine qab [] [] rfl ?_|refine qaa ?_ ?_|(refine tI ?_;intro hyp)|intro hyp0|exact tZ|omega
 ·have:=hp hyp
  omega
 ·have:=hp hyp
  omega
 ·rcases hyp with q|q
  ·simp only[jbo,q,qaf]
  ·simp only[jbo,ibeq,decide_eq_false q,qal,qaf]
 obtain⟨hfit,hlen⟩:=hyp
 obtain⟨⟨a1,a2⟩,a3,a4⟩:=hf hfit
 obtain⟨n,rfl⟩:∃n:Nat,k=n:=⟨k.toNat,by omega⟩
 obtain⟨m,rfl⟩:∃m:Nat,r=m:=⟨r.toNat,by omega⟩
 have hgr:jbo n m L=(qah m).all (fun y=>jb0 (jas L n y)):=by
  simp only[jbo,hfit,ibeq,decide_eq_true hlen,qam,qai]
 have hln:L.length=n*m:=by
  have:(L.length:Int)=((n*m:Nat):Int):=by rw[hlen];simp
  omega
 refine T.loop (fun y:Nat=>⟨[(1,.ptr 0 0 0),(22,.int .i64 m),(23,.int .i64 y)],[.box [.int .i64 n,.int .i64 m,.vec .cell L]]⟩) (fun y=>y≤m∧∀j,j<y→jb0 (jas L n j)=true) (fun y=>m-y) 0 ⟨by omega,fun j hj=>by omega⟩ (qab [0] [] rfl (by simp only[PB,SAM,seval,rdB,Hk.out zc])) (fun y ⟨hy,hall⟩=>?_)
 have hrow:y<m→(y+1)*n≤L.length:=fun h=>by
  rw[hln,Nat.mul_comm n m]
  exact Nat.mul_le_mul_right n h
 have hcr:=jvJ hc n y
 have hrl:(jas L n y).length≤1000000:=by simp[jas];omega
 repeat' first|exact hcr|refine tU ?_|refine qab [] [] rfl ?_|refine qaa ?_ ?_|(refine tI ?_;intro hyp)|intro hyp0|exact tZ|omega
 ·rw[hgr,ja2 (by omega:y<m) hyp]
 ·exact⟨y+1,⟨by omega,jcU (f:=fun j=>jb0 (jas L n j)) hyp hall⟩,by omega,qab [0] [] rfl (by simp only[PB,SAM,seval,rdB,Hk.out zc];simp)⟩
 ·rw[hgr,jbN (n:=m) (k:=y) (by omega) hall])
theorem jse:Fre 92 sp_gmay:=ofF (u3 q_gmay) jwP fun _=>rfl
def jak (L:List CD) (k r:Nat):List (List CD):=(qah r).map (jas L k)
abbrev jwQ:List AK:=[.agg [.any,.any,.sl .cell]]
abbrev q_rows (k r:Int) (L:List CD):QA:=([.agg [.int .i64 k,.int .i64 r,.vec .cell L]],CWs L∧L.length≤1000000,.ret (.tup [.vec (.rows .cell) (if jbo k r L then jak L k.toNat r.toNat else []),.bool (jbo k r L)]))
def sp_rows:=spQ (u3 q_rows)
theorem jqo:W3 (hA sp_rows) q_rows:=w3 (aA rfl)
theorem jwR:Al 36 sp_rows:=ofA (u3 q_rows) fun⟨k,r,L⟩ hG=>tfi (.f [.sl .cell] jdE jic (.f [.sl .cell] jhz jwN .nil)) 0 jko (by
 dsimp only[u3,q_rows]at hG ⊢
 have zc:=Hk.mk (qaa @jd0 (qaa @jqh (qaa @tq0 (qaa @tq1 @tq2))))
 obtain⟨hc,hl⟩:=hG
 have hf:jb5 k r=true→(1≤k∧k≤80)∧(1≤r∧r≤24):=fun h=>by
  simp only[jb5,HB,ne_eq,reduceCtorEq]at h
  omega
 have hp:(1≤k∧k≤80)∧(1≤r∧r≤24)→0≤k*r∧k*r≤1920:=fun⟨⟨a1,a2⟩,a3,a4⟩ =>
  ⟨qae (by omega) (by omega),qan (Int.mul_le_mul_of_nonneg_right a2 (by omega)) (by omega)⟩
 have hg0:(((k<1∨80<k)∨r<1)∨24<r)∨¬(L.length:Int)=k*r→jbo k r L=false:=fun h=>by
  rcases h with h|h
  ·have:jb5 k r=false:=by
    cases e:jb5 k r with
    | false=>rfl
    | true=>have:=hf e;omega
   simp only[jbo,this,qaf]
  ·simp only[jbo,ibeq,decide_eq_false h,qal,qaf]
 repeat' first|refine tU ?_|refine qab [] [0,1,2,3,4,5,6,7,8,9] rfl ?_|refine qaa ?_ ?_|(refine tI ?_;intro hyp)|intro hyp0|exact tZ|omega
 ·rw[hg0 hyp]
  rfl
 ·exact (hg0 hyp).symm
 obtain⟨hfit,hlen⟩:=hyp
 obtain⟨n,rfl⟩:∃n:Nat,k=n:=⟨k.toNat,by omega⟩
 obtain⟨m,rfl⟩:∃m:Nat,r=m:=⟨r.toNat,by omega⟩
 have hfb:jb5 n m=true:=by simp only[jb5,HB,ne_eq,reduceCtorEq];omega
 have hgr:jbo n m L=(qah m).all (fun y=>jb0 (jas L n y)):=by
  simp only[jbo,hfb,ibeq,decide_eq_true hlen,qam,qai]
 have hln:L.length=n*m:=by
  have:(L.length:Int)=((n*m:Nat):Int):=by rw[hlen];simp
  omega
 refine T.loop (fun y:Nat=>⟨[(1,.ptr 0 0 0),(4,.slice 1 0 1 y y),(5,.int .i64 y)],[.box [.int .i64 n,.int .i64 m,.vec .cell L],.seq (.rows .cell) (jak L n y)]⟩) (fun y=>y≤m∧∀j,j<y→jb0 (jas L n j)=true) (fun y=>m-y) 0 ⟨by omega,fun j hj=>by omega⟩ (qab [0,1] [] rfl (by simp only[PB,SAM,seval,rdB,Hk.out zc];simp[jak])) (fun y ⟨hy,hall⟩=>?_)
 have hrow:y<m→(y+1)*n≤L.length:=fun h=>by
  rw[hln,Nat.mul_comm n m]
  exact Nat.mul_le_mul_right n h
 have hcr:=jvJ hc n y
 have hrl:(jas L n y).length≤1000000:=by simp[jas];omega
 have hml:(jak L n y).length=y:=by simp[jak]
 have hmf:y<m→0≤(y:Int)*n∧(y:Int)*n≤1000000∧(y:Int)*n+n≤L.length:=fun h=>by
  have:=jch (hrow h)
  omega
 have hw:((y:Int)*n+n).toNat=y*n+n:=by rw[←tq0,←Int.toNat_add_nat (qae (by omega) (by omega))]
 have hw3:List.take y (jak L n y)=jak L n y:=qag (by omega)
 have hw2:List.take n (List.drop (y*n) L)=jas L n y:=rfl
 have hno:y<m→jb0 (jas L n y)=false→jbo n m L=false:=fun h q=>by rw[hgr,ja2 h q]
 have hye:¬y<m→jbo n m L=true:=fun h=>by rw[hgr,jbN (n:=m) (k:=y) h hall]
 repeat' first|exact hcr|refine tU ?_|refine qab [] [0,1,2,3,4,5,6,7,8,9] rfl ?_|refine qaa ?_ ?_|(refine tI ?_;intro hyp)|intro hyp0|exact tZ|omega
 ·rw[hno (by omega) hyp]
  rfl
 ·exact (hno (by omega) hyp).symm
 ·refine⟨y+1,⟨by omega,jcU (f:=fun j=>jb0 (jas L n j)) hyp hall⟩,by omega,qab [0,3] [] rfl ?_⟩
  have:jak L n (y+1)=jak L n y++[jas L n y]:=by simp[jak,List.range_succ]
  simp only[PB,SAM,seval,rdB,Hk.out zc,this,hml]
  simp
 ·obtain rfl:y=m:=by omega
  rw[hye (by omega)]
  rfl
 ·exact (hye (by omega)).symm)
abbrev q_rblanks (n:Nat) (p:PD):QA:=([.int .i64 n,penV p],n≤1000000,.ret (.vec .cell (qac n (jcv p))))
def sp_rblanks:=spQ (u2 q_rblanks)
theorem jgp:W2 (hA sp_rblanks) q_rblanks:=w2 (aA rfl)
theorem jks:Fre 97 sp_rblanks:=ofT (u2 q_rblanks) fun⟨n,p⟩ hG=>tfi (.f [.any] jiY jr3 .nil) 0 jeD (by
 dsimp only[u2,q_rblanks]at hG ⊢
 have zc:=Hk.mk (qaa @jmn (qaa @tq0 (qaa @tq1 @tq2)))
 repeat' first|refine tU ?_|refine Cos.row (t:=.cell) rfl ?_ rfl (Nat.le_refl _)|refine qaa ?_ ?_|(refine tI ?_;intro hyp)|intro hyp0|exact tZ|omega
 refine T.loop (fun k:Nat=>⟨[(3,.ptr 0 0 0),(5,.slice 1 0 6 n n),(10,.int .i64 n),(11,.int .i64 k)],[.box [.int .u32 p.fg,.int .u32 p.bg,.int .u8 p.attrs,.int .u16 p.link],.seq .cell (qac k (jcv p)++qac (n-k) default)]⟩) (fun k=>k≤n) (fun k=>n-k) 0 (by omega) (qab [0,1] [] rfl (by simp only[PB,SAM,seval,rdB,Hk.out zc];simp)) (fun k hk=>?_)
 repeat' first|refine tU ?_|refine qaa ?_ ?_|(refine tI ?_;intro hyp)|intro hyp0|exact tZ|omega
 ·exact⟨k+1,by omega,by omega,qab [0,1] [] rfl (by rw[jx2 n k (by omega)];simp only[PB,SAM,seval,rdB,Hk.out zc];simp)⟩
 ·obtain rfl:k=n:=by omega
  exact Cos.rowl (t:=.cell) (L:=qac k (jcv p)) rfl (by simp) (by simp) (by simp) (by simp))
abbrev q_rgof (M:List (List CD)):QA:=([.vec (.rows .cell) M],M.flatten.length≤1000000∧M.length≤1000000,.ret (.agg [.int .i64 (M.getLastD []).length,.int .i64 M.length,.vec .cell M.flatten]))
def sp_rgof:=spQ (u1 q_rgof)
theorem jqp:W1 (hA sp_rgof) q_rgof:=w1 (aA rfl)
theorem jwS:Fre 78 sp_rgof:=ofT (u1 q_rgof) fun M hG=>tfi .nil 0 jo4 (by
 dsimp only[u1,q_rgof]at hG ⊢
 have zc:=Hk.mk (qaa @tq0 (qaa @tq1 @tq2))
 obtain⟨hl,hm⟩:=hG
 repeat' first|refine tU ?_|refine qaa ?_ ?_|(refine tI ?_;intro hyp)|intro hyp0|exact tZ|omega
 refine T.loop (fun y:Nat=>⟨[(0,.vec (.rows .cell) M),(2,.ptr 0 0 0),(3,.ptr 1 0 0),(9,.int .i64 M.length),(10,.int .i64 y)],[.box [.int .i64 0,.int .i64 0,.nils],.box [.int .i64 ((M.take y).getLastD []).length,.int .i64 M.length,.slice 2 0 6 (M.take y).flatten.length (M.take y).flatten.length],.seq .cell (M.take y).flatten]⟩) (fun y=>y≤M.length) (fun y=>M.length-y) 0 (by omega) (qab [0,1,99] [] rfl (by simp only[PB,SAM,seval,rdB,Hk.out zc];simp[crs,crsL,jaE])) (fun y hy=>?_)
 have htk:y<M.length→M.take (y+1)=M.take y++[M.getD y []]:=fun h=>jmg h
 have hfl:y<M.length→(M.take y).flatten.length+(M.getD y []).length≤1000000:=fun h=>by
  have e:M.flatten=(M.take (y+1)).flatten++(M.drop (y+1)).flatten:=by rw[←qad,List.take_append_drop]
  have:=congrArg List.length e
  rw[htk h]at this
  simp only[qad,List.length_append,qaj,qak,List.append_nil]at this
  omega
 repeat' first|refine tU ?_|refine qaa ?_ ?_|(refine tI ?_;intro hyp)|intro hyp0|exact tZ|omega
 ·refine⟨y+1,by omega,by omega,qab [0,1,3] [] rfl ?_⟩
  rw[htk (by omega)]
  simp only[PB,SAM,seval,rdB,Hk.out zc,qad,qaj,qak]
  simp
 ·have e:M.take y=M:=qag (by omega)
  rw[e]
  exact qab [2] [] rfl (by simp only[PB,SAM,seval,rdB,Hk.out zc];simp))
def pen0:PD:=⟨0,0,0,0⟩
abbrev blank0:CD:=⟨32,0,0,0,0,0⟩
abbrev q_gnew (k r:Int):QA:=([.int .i64 k,.int .i64 r],True,.ret (if jb5 k r then .tup [.agg [.int .i64 k,.int .i64 r,.vec .cell (qac (k.toNat*r.toNat) blank0)],.int .i64 0] else .tup [.agg [.int .i64 0,.int .i64 0,.vec .cell []],.int .i64 1]))
def sp_gnew:=spQ (u2 q_gnew)
theorem jqq:W2 (hA sp_gnew) q_gnew:=w2 (aA rfl)
theorem jwT:Al 189 sp_gnew:=ofA (u2 q_gnew) fun⟨k,r⟩ hG=>tfi (.f [.any,.any] jfK jsa (.f [.any] jdi ji1 .nil)) 0 jkn (by
 dsimp only[u2,q_gnew]at hG ⊢
 have zc:=Hk.mk (qaa @jkp (qaa @jeA (qaa @tq0 (qaa @tq1 @tq2))))
 cases hw:jb5 k r
 ·repeat' first|refine tU ?_|refine qab [] [0,1,2,3,4,5,6,7,8,9] rfl ?_|refine qaa ?_ ?_|(refine tI ?_;intro hyp)|intro hyp0|exact tZ|omega
 ·have hfit:(1≤k∧k≤80)∧(1≤r∧r≤24):=by
   simp only[jb5,HB,ne_eq,reduceCtorEq]at hw
   omega
  obtain⟨n,rfl⟩:∃n:Nat,k=n:=⟨k.toNat,by omega⟩
  obtain⟨m,rfl⟩:∃m:Nat,r=m:=⟨r.toNat,by omega⟩
  have hp:(n:Int)*m≤1920∧n*m≤1920∧(0:Int)≤(n:Int)*m:=by
   have h1:n*m≤80*24:=Nat.mul_le_mul (by omega) (by omega)
   have h2:((n*m:Nat):Int)=(n:Int)*m:=by simp
   omega
  have hcast:((n*m:Nat):Int)=(n:Int)*m:=by simp
  repeat' first|refine tU ?_|refine qab [] [0,1,2,3,4,5,6,7,8,9] rfl ?_|refine qaa ?_ ?_|(refine tI ?_;intro hyp)|intro hyp0|exact tZ|omega
  refine T.loop (fun i:Nat=>⟨[(4,.ptr 0 0 0),(6,.ptr 1 0 0),(22,.int .i64 (n*m:Nat)),(23,.int .i64 i)],[.box [.int .i64 0,.int .i64 0,.nils],.box [.int .i64 n,.int .i64 m,.slice 2 0 6 (n*m) (n*m)],.seq .cell (qac i blank0++qac (n*m-i) default)]⟩) (fun i=>i≤n*m) (fun i=>n*m-i) 0 (by omega) (qab [0,2,1] [] rfl (by simp only[PB,SAM,seval,rdB,Hk.out zc];simp)) (fun i hi=>?_)
  have hw3:jcv { fg:=0,bg:=0,attrs:=0,link:=0 }=blank0:=rfl
  repeat' first|refine tU ?_|refine qaa ?_ ?_|(refine tI ?_;intro hyp)|intro hyp0|exact tZ|omega
  ·refine⟨i+1,by omega,by omega,qab [0,1,2] [] rfl ?_⟩
   rw[jx2 _ i (by omega)]
   simp only[PB,SAM,seval,rdB,Hk.out zc]
   simp
  ·obtain rfl:i=n*m:=by omega
   exact qab [] [2] rfl (by simp only[PB,SAM,seval,rdB,Hk.out zc];simp))
end
end
end Go.Proofs.YtienkkicehmchaaGreatDoor
