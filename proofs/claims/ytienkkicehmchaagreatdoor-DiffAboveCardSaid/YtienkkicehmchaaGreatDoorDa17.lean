/- Texts of this claim, merged by a program of this claim: FGrid. -/
import Derived.Test.YtienkkicehmchaaGreatDoorDa12
import Derived.Test.YtienkkicehmchaaGreatDoorDa5
import Derived.Test.YtienkkicehmchaaGreatDoorDa7
namespace Go.Proofs.YtienkkicehmchaaGreatDoor
set_option linter.unusedVariables false
set_option linter.unusedSimpArgs false
section
open Go.RowKit
set_option maxRecDepth 100000
set_option maxHeartbeats 4000000
theorem tq0 (a b:Nat):((a:Int)*(b:Int)).toNat=a*b:=by rw[←Int.natCast_mul];rfl
theorem tq1 (a b:Nat):(((a:Int)+1)*(b:Int)).toNat=(a+1)*b:=tq0 (a+1) b
theorem tq2 (a b:Nat):(a+1)*b-a*b=b:=by rw[Nat.add_mul];omega
def jfe (cols rows:Int):Bool:=decide (1≤cols)&&decide (cols≤80)&&decide (1≤rows)&&decide (rows≤24)
def jbH (L:List CD) (cols y:Nat):List CD:=(L.drop (y*cols)).take cols
def jb9 (cols rows:Int) (L:List CD):Bool:=jfe cols rows&&((L.length:Int)==cols*rows)&&(List.range rows.toNat).all (fun y=>jbG (jbH L cols.toNat y))
theorem jrs {L:List CD}(h:CWs L) (n y:Nat):CWs (jbH L n y):=fun c hc=>h c (List.mem_of_mem_drop (List.mem_of_mem_take hc))
theorem jjV {y n N:Nat}(h:(y+1)*n≤N):0≤(y:Int)*n∧(y:Int)*n≤N∧0≤((y:Int)+1)*n∧((y:Int)+1)*n≤N∧((y:Int)+1)*n=y*n+n:=by
 have h1:((y:Int)+1)*n=y*n+n:=by rw[Int.add_mul,Int.one_mul]
 have h2:(0:Int)≤(y:Int)*n:=Int.mul_nonneg (by omega) (by omega)
 have h3:(((y+1)*n:Nat):Int)=((y:Int)+1)*n:=by simp
 omega
abbrev joF (k:Int) (r:Int):List CV:=[.int .i64 k,.int .i64 r]
abbrev joG (k:Int) (r:Int):Prop×Res:=(True,.ret (.bool (jfe k r)))
noncomputable def sp_fits:Spec:=spOf (α:=Int×Int) (fun⟨k,r⟩=>joF k r) fun⟨k,r⟩=>joG k r
theorem jdA (k:Int) (r:Int):sp_fits (joF k r)=some (joG k r):=jad _ injS (k,r)
theorem jsG:Alias Tryz.prog E0 125 sp_fits:=Alias.of fun⟨k,r⟩ hG=>TF.intro (V:=(VV [] GOk.nil 19 0)) jd6 rfl rfl (by
 dsimp only[joF,joG]at hG ⊢
 repeat' first|simp only[SA,seval,rdB,tq0,tq1,tq2]|refine tT ?_|refine Cos.intro [] [] rfl ?_|refine And.intro ?_ ?_|exact tC|(refine tI ?_;intro hyp)|intro hyp0|omega
 rfl)
theorem jsH:Fresh Tryz.prog E0 125 sp_fits:=Alias.fresh jsG (fun x=>rfl)
abbrev joH (n:Nat) (r:Int) (L:List CD) (y:Nat):List CV:=[.agg [.int .i64 n,.int .i64 r,.vec .cell L],.int .i64 y]
abbrev joI (n:Nat) (r:Int) (L:List CD) (y:Nat):Prop×Res:=((y+1)*n≤L.length∧L.length≤1000000∧y≤1000000,.ret (.vec .cell (jbH L n y)))
noncomputable def sp_grow:Spec:=spOf (α:=Nat×Int×(List CD)×Nat) (fun⟨n,r,L,y⟩=>joH n r L y) fun⟨n,r,L,y⟩=>joI n r L y
theorem jdB (n:Nat) (r:Int) (L:List CD) (y:Nat):sp_grow (joH n r L y)=some (joI n r L y):=jad _ injS (n,r,L,y)
theorem jsI:Alias Tryz.prog E0 127 sp_grow:=Alias.of fun⟨n,r,L,y⟩ hG=>TF.intro (V:=(VV [] GOk.nil 22 0)) jfc rfl rfl (by
 dsimp only[joH,joI]at hG ⊢
 obtain⟨h1,h2,h4⟩:=hG
 have hm:=jjV h1
 have hm2:(y+1)*n=y*n+n:=by rw[Nat.add_mul];omega
 have hy:y*n≤1000000:=by omega
 repeat' first|simp only[SA,seval,rdB,tq0,tq1,tq2]|refine tT ?_|refine Cos.intro [] [0,1,2,3,4,5,6,7,8,9] rfl ?_|refine And.intro ?_ ?_|exact tC|(refine tI ?_;intro hyp)|intro hyp0|omega
 rfl)
abbrev joJ (k:Int) (r:Int) (L:List CD):List CV:=[.agg [.int .i64 k,.int .i64 r,.vec .cell L]]
abbrev joK (k:Int) (r:Int) (L:List CD):Prop×Res:=(CWs L∧L.length≤1000000,.ret (.bool (jb9 k r L)))
noncomputable def sp_gmay:Spec:=spOf (α:=Int×Int×(List CD)) (fun⟨k,r,L⟩=>joJ k r L) fun⟨k,r,L⟩=>joK k r L
theorem jcB (k:Int) (r:Int) (L:List CD):sp_gmay (joJ k r L)=some (joK k r L):=jad _ injS (k,r,L)
theorem jsJ:Alias Tryz.prog E0 92 sp_gmay:=Alias.of fun⟨k,r,L⟩ hG=>TF.intro (V:=(VV [(125,conF [.any,.any] sp_fits),(127,conA [.agg [.any,.any,.sl .cell],.any] sp_grow),(126,conF [.sl .cell] sp_crow)] (.cons (jaa jd6) (Fresh.soundF jsH) (.cons (jaa jfc) (Alias.soundA jsI) (.cons (jaa jcS) (Fresh.soundF jsv) GOk.nil))) 32 0)) jfd rfl rfl (by
 dsimp only[joJ,joK]at hG ⊢
 obtain⟨hc,hl⟩:=hG
 have hf:jfe k r=true→(1≤k∧k≤80)∧(1≤r∧r≤24):=fun h=>by
  simp only[jfe,HB,ne_eq,reduceCtorEq]at h
  omega
 have hp:jfe k r=true→0≤k*r∧k*r≤1920:=fun h=>by
  obtain⟨⟨a1,a2⟩,a3,a4⟩:=hf h
  exact⟨Int.mul_nonneg (by omega) (by omega),Int.le_trans (Int.mul_le_mul_of_nonneg_right a2 (by omega)) (by omega)⟩
 repeat' first|simp only[SA,seval,rdB,jdA,jdB,jdw,tq0,tq1,tq2]|refine tT ?_|refine Cos.intro [] [] rfl ?_|refine And.intro ?_ ?_|exact tC|(refine tI ?_;intro hyp)|intro hyp0|omega
 ·have:=hp hyp
  omega
 ·have:=hp hyp
  omega
 ·rcases hyp with q|q
  ·simp only[jb9,q,Bool.false_and]
  ·simp only[jb9,ibeq,decide_eq_false q,Bool.and_false,Bool.false_and]
 obtain⟨hfit,hlen⟩:=hyp
 obtain⟨⟨a1,a2⟩,a3,a4⟩:=hf hfit
 obtain⟨n,rfl⟩:∃n:Nat,k=n:=⟨k.toNat,by omega⟩
 obtain⟨m,rfl⟩:∃m:Nat,r=m:=⟨r.toNat,by omega⟩
 have hgr:jb9 n m L=(List.range m).all (fun y=>jbG (jbH L n y)):=by
  simp only[jb9,hfit,ibeq,decide_eq_true hlen,Bool.true_and,Int.toNat_natCast]
 have hln:L.length=n*m:=by
  have:(L.length:Int)=((n*m:Nat):Int):=by rw[hlen];simp
  omega
 refine T.loop (fun y:Nat=>⟨[(1,.ptr 0 0 0),(22,.int .i64 m),(23,.int .i64 y)],[.box [.int .i64 n,.int .i64 m,.vec .cell L]]⟩) (fun y=>y≤m∧∀j,j<y→jbG (jbH L n j)=true) (fun y=>m-y) 0 ⟨by omega,fun j hj=>by omega⟩ (Cos.intro [0] [] rfl (by simp only[SA,seval,rdB,jdA,jdB,jdw,tq0,tq1,tq2])) (fun y ⟨hy,hall⟩=>?_)
 have hrow:y<m→(y+1)*n≤L.length:=fun h=>by
  rw[hln,Nat.mul_comm n m]
  exact Nat.mul_le_mul_right n h
 have hcr:=jrs hc n y
 have hrl:(jbH L n y).length≤1000000:=by simp[jbH];omega
 repeat' first|exact hcr|simp only[SA,seval,rdB,jdA,jdB,jdw,tq0,tq1,tq2]|refine tT ?_|refine Cos.intro [] [] rfl ?_|refine And.intro ?_ ?_|exact tC|(refine tI ?_;intro hyp)|intro hyp0|omega
 ·rw[hgr,jaD (by omega:y<m) hyp]
 ·exact⟨y+1,⟨by omega,jb6 (f:=fun j=>jbG (jbH L n j)) hyp hall⟩,by omega,Cos.intro [0] [] rfl (by simp only[SA,seval,rdB,jdA,jdB,jdw,tq0,tq1,tq2];simp)⟩
 ·rw[hgr,jbh (n:=m) (k:=y) (by omega) hall])
theorem jsK:Fresh Tryz.prog E0 92 sp_gmay:=Alias.fresh jsJ (fun x=>rfl)
def jhv (L:List CD) (k r:Nat):List (List CD):=(List.range r).map (jbH L k)
abbrev joL (k:Int) (r:Int) (L:List CD):List CV:=[.agg [.int .i64 k,.int .i64 r,.vec .cell L]]
abbrev joM (k:Int) (r:Int) (L:List CD):Prop×Res:=(CWs L∧L.length≤1000000,.ret (.tup [.vec (.rows .cell) (if jb9 k r L then jhv L k.toNat r.toNat else []),.bool (jb9 k r L)]))
noncomputable def sp_rows:Spec:=spOf (α:=Int×Int×(List CD)) (fun⟨k,r,L⟩=>joL k r L) fun⟨k,r,L⟩=>joM k r L
theorem jcC (k:Int) (r:Int) (L:List CD):sp_rows (joL k r L)=some (joM k r L):=jad _ injS (k,r,L)
theorem jsL:Alias Tryz.prog E0 36 sp_rows:=Alias.of fun⟨k,r,L⟩ hG=>TF.intro (V:=(VV [(84,conF [.sl .cell] sp_rcopy),(85,conF [.sl .cell] sp_rrow)] (.cons (jaa jhP) (Fresh.soundF jqK) (.cons (jaa jfD) (Fresh.soundF jsx) GOk.nil)) 66 0)) jhU rfl rfl (by
 dsimp only[joL,joM]at hG ⊢
 obtain⟨hc,hl⟩:=hG
 have hf:jfe k r=true→(1≤k∧k≤80)∧(1≤r∧r≤24):=fun h=>by
  simp only[jfe,HB,ne_eq,reduceCtorEq]at h
  omega
 have hp:(1≤k∧k≤80)∧(1≤r∧r≤24)→0≤k*r∧k*r≤1920:=fun⟨⟨a1,a2⟩,a3,a4⟩ =>
  ⟨Int.mul_nonneg (by omega) (by omega),Int.le_trans (Int.mul_le_mul_of_nonneg_right a2 (by omega)) (by omega)⟩
 have hg0:(((k<1∨80<k)∨r<1)∨24<r)∨¬(L.length:Int)=k*r→jb9 k r L=false:=fun h=>by
  rcases h with h|h
  ·have:jfe k r=false:=by
    cases e:jfe k r with
    | false=>rfl
    | true=>have:=hf e;omega
   simp only[jb9,this,Bool.false_and]
  ·simp only[jb9,ibeq,decide_eq_false h,Bool.and_false,Bool.false_and]
 repeat' first|simp only[SA,seval,rdB,jcT,jdx,tq0,tq1,tq2]|simp only[hw]|simp only[hw2]|simp only[hw3]|refine tT ?_|refine Cos.intro [] [0,1,2,3,4,5,6,7,8,9] rfl ?_|refine And.intro ?_ ?_|exact tC|(refine tI ?_;intro hyp)|intro hyp0|omega
 ·rw[hg0 hyp]
  rfl
 ·exact (hg0 hyp).symm
 obtain⟨hfit,hlen⟩:=hyp
 obtain⟨n,rfl⟩:∃n:Nat,k=n:=⟨k.toNat,by omega⟩
 obtain⟨m,rfl⟩:∃m:Nat,r=m:=⟨r.toNat,by omega⟩
 have hfb:jfe n m=true:=by simp only[jfe,HB,ne_eq,reduceCtorEq];omega
 have hgr:jb9 n m L=(List.range m).all (fun y=>jbG (jbH L n y)):=by
  simp only[jb9,hfb,ibeq,decide_eq_true hlen,Bool.true_and,Int.toNat_natCast]
 have hln:L.length=n*m:=by
  have:(L.length:Int)=((n*m:Nat):Int):=by rw[hlen];simp
  omega
 refine T.loop (fun y:Nat=>⟨[(1,.ptr 0 0 0),(4,.slice 1 0 1 y y),(5,.int .i64 y)],[.box [.int .i64 n,.int .i64 m,.vec .cell L],.seq (.rows .cell) (jhv L n y)]⟩) (fun y=>y≤m∧∀j,j<y→jbG (jbH L n j)=true) (fun y=>m-y) 0 ⟨by omega,fun j hj=>by omega⟩ (Cos.intro [0,1] [] rfl (by simp only[SA,seval,rdB,jcT,jdx,tq0,tq1,tq2];simp[jhv])) (fun y ⟨hy,hall⟩=>?_)
 have hrow:y<m→(y+1)*n≤L.length:=fun h=>by
  rw[hln,Nat.mul_comm n m]
  exact Nat.mul_le_mul_right n h
 have hcr:=jrs hc n y
 have hrl:(jbH L n y).length≤1000000:=by simp[jbH];omega
 have hml:(jhv L n y).length=y:=by simp[jhv]
 have hmf:y<m→0≤(y:Int)*n∧(y:Int)*n≤1000000∧(y:Int)*n+n≤L.length:=fun h=>by
  have:=jjV (hrow h)
  omega
 have hw:((y:Int)*n+n).toNat=y*n+n:=by rw[←tq0,←Int.toNat_add_nat (Int.mul_nonneg (by omega) (by omega))]
 have hw3:List.take y (jhv L n y)=jhv L n y:=List.take_of_length_le (by omega)
 have hw2:List.take n (List.drop (y*n) L)=jbH L n y:=rfl
 have hno:y<m→jbG (jbH L n y)=false→jb9 n m L=false:=fun h q=>by rw[hgr,jaD h q]
 have hye:¬y<m→jb9 n m L=true:=fun h=>by rw[hgr,jbh (n:=m) (k:=y) h hall]
 repeat' first|exact hcr|simp only[SA,seval,rdB,jcT,jdx,tq0,tq1,tq2]|simp only[hw]|simp only[hw2]|simp only[hw3]|refine tT ?_|refine Cos.intro [] [0,1,2,3,4,5,6,7,8,9] rfl ?_|refine And.intro ?_ ?_|exact tC|(refine tI ?_;intro hyp)|intro hyp0|omega
 ·rw[hno (by omega) hyp]
  rfl
 ·exact (hno (by omega) hyp).symm
 ·refine⟨y+1,⟨by omega,jb6 (f:=fun j=>jbG (jbH L n j)) hyp hall⟩,by omega,Cos.intro [0,3] [] rfl ?_⟩
  have:jhv L n (y+1)=jhv L n y++[jbH L n y]:=by simp[jhv,List.range_succ]
  simp only[SA,seval,rdB,jcT,jdx,tq0,tq1,tq2,this,hml]
  simp
 ·obtain rfl:y=m:=by omega
  rw[hye (by omega)]
  rfl
 ·exact (hye (by omega)).symm)
end
end Go.Proofs.YtienkkicehmchaaGreatDoor
