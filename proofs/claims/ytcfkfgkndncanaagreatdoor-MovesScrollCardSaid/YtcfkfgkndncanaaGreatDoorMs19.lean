/- Texts of this claim, merged by a program of this claim: FGrid. -/
import Derived.Test.YtcfkfgkndncanaaGreatDoorMs13
import Derived.Test.YtcfkfgkndncanaaGreatDoorMs17
import Derived.Test.YtcfkfgkndncanaaGreatDoorMs5
namespace Go.Proofs.YtcfkfgkndncanaaGreatDoor
set_option linter.unusedVariables false
set_option linter.unusedSimpArgs false
section
open Go.RowKit
set_option maxRecDepth 100000
set_option maxHeartbeats 4000000
theorem jCa {α:Type}(n k:Nat) (h:k<n) (a d:α):(List.replicate k a++List.replicate (n-k) d).set k a=List.replicate (k+1) a++List.replicate (n-(k+1)) d:=by
 rw[List.set_append_right _ _ (by simp),show n-k=n-(k+1)+1 by omega,List.replicate_succ,List.length_replicate,Nat.sub_self,List.set_cons_zero,List.replicate_succ']
 simp
theorem Cos.rowl {h:KH}{i n c l:Nat}{t:ETy}{M L:List t.T}(hb:h.get i=.seq t M) (e:M=L) (hn:n=M.length) (hc:M.length≤c) (hl:L.length=l):Cos 0 ⟨[(0,.slice i 0 t.esz n c)],h⟩ ⟨[(0,.slice 0 0 t.esz l l)],[.seq t L]⟩:=by
 subst hl
 exact Cos.row hb e hn hc
theorem tq0 (a b:Nat):((a:Int)*(b:Int)).toNat=a*b:=by rw[←Int.natCast_mul];rfl
theorem tq1 (a b:Nat):(((a:Int)+1)*(b:Int)).toNat=(a+1)*b:=tq0 (a+1) b
theorem tq2 (a b:Nat):(a+1)*b-a*b=b:=by rw[Nat.add_mul];omega
def je5 (cols rows:Int):Bool:=decide (1≤cols)&&decide (cols≤80)&&decide (1≤rows)&&decide (rows≤24)
def jaY (L:List CD) (cols y:Nat):List CD:=(L.drop (y*cols)).take cols
def jbM (cols rows:Int) (L:List CD):Bool:=je5 cols rows&&((L.length:Int)==cols*rows)&&(List.range rows.toNat).all (fun y=>jcN (jaY L cols.toNat y))
theorem jsc {L:List CD}(h:CWs L) (n y:Nat):CWs (jaY L n y):=fun c hc=>h c (List.mem_of_mem_drop (List.mem_of_mem_take hc))
theorem jfo {y n N:Nat}(h:(y+1)*n≤N):0≤(y:Int)*n∧(y:Int)*n≤N∧0≤((y:Int)+1)*n∧((y:Int)+1)*n≤N∧((y:Int)+1)*n=y*n+n:=by
 have h1:((y:Int)+1)*n=y*n+n:=by rw[Int.add_mul,Int.one_mul]
 have h2:(0:Int)≤(y:Int)*n:=Int.mul_nonneg (by omega) (by omega)
 have h3:(((y+1)*n:Nat):Int)=((y:Int)+1)*n:=by simp
 omega
abbrev jvI (k:Int) (r:Int):List CV:=[.int .i64 k,.int .i64 r]
abbrev jvJ (k:Int) (r:Int):Prop×Res:=(True,.ret (.bool (je5 k r)))
noncomputable def sp_fits:Spec:=spOf (α:=Int×Int) (fun⟨k,r⟩=>jvI k r) fun⟨k,r⟩=>jvJ k r
theorem jcn (k:Int) (r:Int):sp_fits (jvI k r)=some (jvJ k r):=jak _ injS (k,r)
theorem jAU:Alias Tryz.prog E0 96 sp_fits:=Alias.of fun⟨k,r⟩ hG=>TF.intro (V:=(VV [] GOk.nil 19 0)) jfO rfl rfl (by
 dsimp only[jvI,jvJ]at hG ⊢
 repeat' first|simp only[SA,seval,rdB,tq0,tq1,tq2]|refine tT ?_|refine Cos.intro [] [] rfl ?_|refine And.intro ?_ ?_|exact tC|(refine tI ?_;intro hyp)|intro hyp0|omega
 rfl)
theorem jvK:Fresh Tryz.prog E0 96 sp_fits:=Alias.fresh jAU (fun x=>rfl)
abbrev jvL (n:Nat) (r:Int) (L:List CD) (y:Nat):List CV:=[.agg [.int .i64 n,.int .i64 r,.vec .cell L],.int .i64 y]
abbrev jvM (n:Nat) (r:Int) (L:List CD) (y:Nat):Prop×Res:=((y+1)*n≤L.length∧L.length≤1000000∧y≤1000000,.ret (.vec .cell (jaY L n y)))
noncomputable def sp_grow:Spec:=spOf (α:=Nat×Int×(List CD)×Nat) (fun⟨n,r,L,y⟩=>jvL n r L y) fun⟨n,r,L,y⟩=>jvM n r L y
theorem jbt (n:Nat) (r:Int) (L:List CD) (y:Nat):sp_grow (jvL n r L y)=some (jvM n r L y):=jak _ injS (n,r,L,y)
theorem jvN:Alias Tryz.prog E0 98 sp_grow:=Alias.of fun⟨n,r,L,y⟩ hG=>TF.intro (V:=(VV [] GOk.nil 22 0)) jfm rfl rfl (by
 dsimp only[jvL,jvM]at hG ⊢
 obtain⟨h1,h2,h4⟩:=hG
 have hm:=jfo h1
 have hm2:(y+1)*n=y*n+n:=by rw[Nat.add_mul];omega
 have hy:y*n≤1000000:=by omega
 repeat' first|simp only[SA,seval,rdB,tq0,tq1,tq2]|refine tT ?_|refine Cos.intro [] [0,1,2,3,4,5,6,7,8,9] rfl ?_|refine And.intro ?_ ?_|exact tC|(refine tI ?_;intro hyp)|intro hyp0|omega
 rfl)
abbrev jqn (n:Nat) (r:Int) (L:List CD) (y:Nat) (i:Nat) (m:Nat) (c:Nat):List CV:=[.agg [.int .i64 n,.int .i64 r,.slice 0 i 6 m c],.int .i64 y]
abbrev jqo (n:Nat) (r:Int) (L:List CD) (y:Nat) (i:Nat) (m:Nat) (c:Nat):KH:=[.seq .cell L]
abbrev jqp (n:Nat) (r:Int) (L:List CD) (y:Nat) (i:Nat) (m:Nat) (c:Nat):Prop×Res×KH:=((y+1)*n≤m∧m≤c∧c≤1000000∧y≤1000000,.ret (.slice 0 (i+y*n) 6 n n),[.seq .cell L])
noncomputable def msp_growM:MSpec:=jcS (α:=Nat×Int×(List CD)×Nat×Nat×Nat×Nat) (fun⟨n,r,L,y,i,m,c⟩=>(jqn n r L y i m c,jqo n r L y i m c)) fun⟨n,r,L,y,i,m,c⟩=>jqp n r L y i m c
theorem jbu (n:Nat) (r:Int) (L:List CD) (y:Nat) (i:Nat) (m:Nat) (c:Nat):msp_growM (jqn n r L y i m c) (jqo n r L y i m c)=some (jqp n r L y i m c):=jbd _ injM (n,r,L,y,i,m,c)
theorem jyD:MutF Tryz.prog E0 98 msp_growM:=MutF.of fun⟨n,r,L,y,i,m,c⟩ hG=>TF.intro (V:=(VV [] GOk.nil 22 1)) jfm rfl rfl (by
 dsimp only[jqn,jqo,jqp]at hG ⊢
 obtain⟨h1,h2,h3,h4⟩:=hG
 have hm:=jfo h1
 have hm2:(y+1)*n=y*n+n:=by rw[Nat.add_mul];omega
 have hy:y*n≤1000000:=by omega
 repeat' first|simp only[SA,MB,seval,rdB,tq0,tq1,tq2]|refine tT ?_|refine Cos.intro [0] [] rfl ?_|refine And.intro ?_ ?_|exact tC|(refine tI ?_;intro hyp)|intro hyp0|omega)
abbrev jvO (k:Int) (r:Int) (L:List CD):List CV:=[.agg [.int .i64 k,.int .i64 r,.vec .cell L]]
abbrev jvP (k:Int) (r:Int) (L:List CD):Prop×Res:=(CWs L∧L.length≤1000000,.ret (.bool (jbM k r L)))
noncomputable def sp_gmay:Spec:=spOf (α:=Int×Int×(List CD)) (fun⟨k,r,L⟩=>jvO k r L) fun⟨k,r,L⟩=>jvP k r L
theorem jej (k:Int) (r:Int) (L:List CD):sp_gmay (jvO k r L)=some (jvP k r L):=jak _ injS (k,r,L)
theorem jAV:Alias Tryz.prog E0 56 sp_gmay:=Alias.of fun⟨k,r,L⟩ hG=>TF.intro (V:=(VV [(96,conF [.any,.any] sp_fits),(98,conA [.agg [.any,.any,.sl .cell],.any] sp_grow),(97,conF [.sl .cell] sp_crow)] (.cons (jaa jfO) (Fresh.soundF jvK) (.cons (jaa jfm) (Alias.soundA jvN) (.cons (jaa jfM) (Fresh.soundF jAS) GOk.nil))) 32 0)) jgD rfl rfl (by
 dsimp only[jvO,jvP]at hG ⊢
 obtain⟨hc,hl⟩:=hG
 have hf:je5 k r=true→(1≤k∧k≤80)∧(1≤r∧r≤24):=fun h=>by
  simp only[je5,HB,ne_eq,reduceCtorEq]at h
  omega
 have hp:je5 k r=true→0≤k*r∧k*r≤1920:=fun h=>by
  obtain⟨⟨a1,a2⟩,a3,a4⟩:=hf h
  exact⟨Int.mul_nonneg (by omega) (by omega),Int.le_trans (Int.mul_le_mul_of_nonneg_right a2 (by omega)) (by omega)⟩
 repeat' first|simp only[SA,seval,rdB,jcn,jbt,jgC,tq0,tq1,tq2]|refine tT ?_|refine Cos.intro [] [] rfl ?_|refine And.intro ?_ ?_|exact tC|(refine tI ?_;intro hyp)|intro hyp0|omega
 ·have:=hp hyp
  omega
 ·have:=hp hyp
  omega
 ·rcases hyp with q|q
  ·simp only[jbM,q,Bool.false_and]
  ·simp only[jbM,ibeq,decide_eq_false q,Bool.and_false,Bool.false_and]
 obtain⟨hfit,hlen⟩:=hyp
 obtain⟨⟨a1,a2⟩,a3,a4⟩:=hf hfit
 obtain⟨n,rfl⟩:∃n:Nat,k=n:=⟨k.toNat,by omega⟩
 obtain⟨m,rfl⟩:∃m:Nat,r=m:=⟨r.toNat,by omega⟩
 have hgr:jbM n m L=(List.range m).all (fun y=>jcN (jaY L n y)):=by
  simp only[jbM,hfit,ibeq,decide_eq_true hlen,Bool.true_and,Int.toNat_natCast]
 have hln:L.length=n*m:=by
  have:(L.length:Int)=((n*m:Nat):Int):=by rw[hlen];simp
  omega
 refine T.loop (fun y:Nat=>⟨[(1,.ptr 0 0 0),(22,.int .i64 m),(23,.int .i64 y)],[.box [.int .i64 n,.int .i64 m,.vec .cell L]]⟩) (fun y=>y≤m∧∀j,j<y→jcN (jaY L n j)=true) (fun y=>m-y) 0 ⟨by omega,fun j hj=>by omega⟩ (Cos.intro [0] [] rfl (by simp only[SA,seval,rdB,jcn,jbt,jgC,tq0,tq1,tq2])) (fun y ⟨hy,hall⟩=>?_)
 have hrow:y<m→(y+1)*n≤L.length:=fun h=>by
  rw[hln,Nat.mul_comm n m]
  exact Nat.mul_le_mul_right n h
 have hcr:=jsc hc n y
 have hrl:(jaY L n y).length≤1000000:=by simp[jaY];omega
 repeat' first|exact hcr|simp only[SA,seval,rdB,jcn,jbt,jgC,tq0,tq1,tq2]|refine tT ?_|refine Cos.intro [] [] rfl ?_|refine And.intro ?_ ?_|exact tC|(refine tI ?_;intro hyp)|intro hyp0|omega
 ·rw[hgr,jbW (by omega:y<m) hyp]
 ·exact⟨y+1,⟨by omega,jew (f:=fun j=>jcN (jaY L n j)) hyp hall⟩,by omega,Cos.intro [0] [] rfl (by simp only[SA,seval,rdB,jcn,jbt,jgC,tq0,tq1,tq2];simp)⟩
 ·rw[hgr,jdf (n:=m) (k:=y) (by omega) hall])
theorem jvQ:Fresh Tryz.prog E0 56 sp_gmay:=Alias.fresh jAV (fun x=>rfl)
def jam (L:List CD) (k r:Nat):List (List CD):=(List.range r).map (jaY L k)
abbrev jno (k:Int) (r:Int) (L:List CD) (k':Int) (r':Int) (L':List CD):List CV:=[.agg [.int .i64 k,.int .i64 r,.vec .cell L],.agg [.int .i64 k',.int .i64 r',.vec .cell L']]
abbrev jnp (k:Int) (r:Int) (L:List CD) (k':Int) (r':Int) (L':List CD):Prop×Res:=(L.length≤4611686018427387904∧L'.length≤4611686018427387904,.ret (.bool (decide (k=k')&&decide (r=r')&&decide (L=L'))))
noncomputable def sp_rsameg:Spec:=spOf (α:=Int×Int×(List CD)×Int×Int×(List CD)) (fun⟨k,r,L,k',r',L'⟩=>jno k r L k' r' L') fun⟨k,r,L,k',r',L'⟩=>jnp k r L k' r' L'
theorem joP (k:Int) (r:Int) (L:List CD) (k':Int) (r':Int) (L':List CD):sp_rsameg (jno k r L k' r' L')=some (jnp k r L k' r' L'):=jak _ injS (k,r,L,k',r',L')
theorem jvR:Alias Tryz.prog E0 41 sp_rsameg:=Alias.of fun⟨k,r,L,k',r',L'⟩ hG=>TF.intro (V:=(VV [(75,conF [.sl .cell,.sl .cell] sp_rsame)] (.cons (jaa jl2) (Fresh.soundF jyA) GOk.nil) 24 0)) jl6 rfl rfl (by
 dsimp only[jno,jnp]at hG ⊢
 obtain⟨h1,h2⟩:=hG
 repeat' first|simp only[SA,seval,rdB,jqf,tq0,tq1,tq2]|refine tT ?_|refine Cos.intro [] [] rfl ?_|refine And.intro ?_ ?_|exact tC|(refine tI ?_;intro hyp)|intro hyp0|omega)
theorem jvS:Fresh Tryz.prog E0 41 sp_rsameg:=Alias.fresh jvR (fun x=>rfl)
abbrev jvT (k:Int) (r:Int) (L:List CD):List CV:=[.agg [.int .i64 k,.int .i64 r,.vec .cell L]]
abbrev jvU (k:Int) (r:Int) (L:List CD):Prop×Res:=(CWs L∧L.length≤1000000,.ret (.tup [.vec (.rows .cell) (if jbM k r L then jam L k.toNat r.toNat else []),.bool (jbM k r L)]))
noncomputable def sp_rows:Spec:=spOf (α:=Int×Int×(List CD)) (fun⟨k,r,L⟩=>jvT k r L) fun⟨k,r,L⟩=>jvU k r L
theorem jfp (k:Int) (r:Int) (L:List CD):sp_rows (jvT k r L)=some (jvU k r L):=jak _ injS (k,r,L)
theorem jAW:Alias Tryz.prog E0 42 sp_rows:=Alias.of fun⟨k,r,L⟩ hG=>TF.intro (V:=(VV [(72,conF [.sl .cell] sp_rcopy),(76,conF [.sl .cell] sp_rrow)] (.cons (jaa jit) (Fresh.soundF jsa) (.cons (jaa jeT) (Fresh.soundF jqm) GOk.nil)) 66 0)) jfn rfl rfl (by
 dsimp only[jvT,jvU]at hG ⊢
 obtain⟨hc,hl⟩:=hG
 have hf:je5 k r=true→(1≤k∧k≤80)∧(1≤r∧r≤24):=fun h=>by
  simp only[je5,HB,ne_eq,reduceCtorEq]at h
  omega
 have hp:(1≤k∧k≤80)∧(1≤r∧r≤24)→0≤k*r∧k*r≤1920:=fun⟨⟨a1,a2⟩,a3,a4⟩ =>
  ⟨Int.mul_nonneg (by omega) (by omega),Int.le_trans (Int.mul_le_mul_of_nonneg_right a2 (by omega)) (by omega)⟩
 have hg0:(((k<1∨80<k)∨r<1)∨24<r)∨¬(L.length:Int)=k*r→jbM k r L=false:=fun h=>by
  rcases h with h|h
  ·have:je5 k r=false:=by
    cases e:je5 k r with
    | false=>rfl
    | true=>have:=hf e;omega
   simp only[jbM,this,Bool.false_and]
  ·simp only[jbM,ibeq,decide_eq_false h,Bool.and_false,Bool.false_and]
 repeat' first|simp only[SA,seval,rdB,jbY,jbO,tq0,tq1,tq2]|simp only[hw]|simp only[hw2]|simp only[hw3]|refine tT ?_|refine Cos.intro [] [0,1,2,3,4,5,6,7,8,9] rfl ?_|refine And.intro ?_ ?_|exact tC|(refine tI ?_;intro hyp)|intro hyp0|omega
 ·rw[hg0 hyp]
  rfl
 ·exact (hg0 hyp).symm
 obtain⟨hfit,hlen⟩:=hyp
 obtain⟨n,rfl⟩:∃n:Nat,k=n:=⟨k.toNat,by omega⟩
 obtain⟨m,rfl⟩:∃m:Nat,r=m:=⟨r.toNat,by omega⟩
 have hfb:je5 n m=true:=by simp only[je5,HB,ne_eq,reduceCtorEq];omega
 have hgr:jbM n m L=(List.range m).all (fun y=>jcN (jaY L n y)):=by
  simp only[jbM,hfb,ibeq,decide_eq_true hlen,Bool.true_and,Int.toNat_natCast]
 have hln:L.length=n*m:=by
  have:(L.length:Int)=((n*m:Nat):Int):=by rw[hlen];simp
  omega
 refine T.loop (fun y:Nat=>⟨[(1,.ptr 0 0 0),(4,.slice 1 0 1 y y),(5,.int .i64 y)],[.box [.int .i64 n,.int .i64 m,.vec .cell L],.seq (.rows .cell) (jam L n y)]⟩) (fun y=>y≤m∧∀j,j<y→jcN (jaY L n j)=true) (fun y=>m-y) 0 ⟨by omega,fun j hj=>by omega⟩ (Cos.intro [0,1] [] rfl (by simp only[SA,seval,rdB,jbY,jbO,tq0,tq1,tq2];simp[jam])) (fun y ⟨hy,hall⟩=>?_)
 have hrow:y<m→(y+1)*n≤L.length:=fun h=>by
  rw[hln,Nat.mul_comm n m]
  exact Nat.mul_le_mul_right n h
 have hcr:=jsc hc n y
 have hrl:(jaY L n y).length≤1000000:=by simp[jaY];omega
 have hml:(jam L n y).length=y:=by simp[jam]
 have hmf:y<m→0≤(y:Int)*n∧(y:Int)*n≤1000000∧(y:Int)*n+n≤L.length:=fun h=>by
  have:=jfo (hrow h)
  omega
 have hw:((y:Int)*n+n).toNat=y*n+n:=by rw[←tq0,←Int.toNat_add_nat (Int.mul_nonneg (by omega) (by omega))]
 have hw3:List.take y (jam L n y)=jam L n y:=List.take_of_length_le (by omega)
 have hw2:List.take n (List.drop (y*n) L)=jaY L n y:=rfl
 have hno:y<m→jcN (jaY L n y)=false→jbM n m L=false:=fun h q=>by rw[hgr,jbW h q]
 have hye:¬y<m→jbM n m L=true:=fun h=>by rw[hgr,jdf (n:=m) (k:=y) h hall]
 repeat' first|exact hcr|simp only[SA,seval,rdB,jbY,jbO,tq0,tq1,tq2]|simp only[hw]|simp only[hw2]|simp only[hw3]|refine tT ?_|refine Cos.intro [] [0,1,2,3,4,5,6,7,8,9] rfl ?_|refine And.intro ?_ ?_|exact tC|(refine tI ?_;intro hyp)|intro hyp0|omega
 ·rw[hno (by omega) hyp]
  rfl
 ·exact (hno (by omega) hyp).symm
 ·refine⟨y+1,⟨by omega,jew (f:=fun j=>jcN (jaY L n j)) hyp hall⟩,by omega,Cos.intro [0,3] [] rfl ?_⟩
  have:jam L n (y+1)=jam L n y++[jaY L n y]:=by simp[jam,List.range_succ]
  simp only[SA,seval,rdB,jbY,jbO,tq0,tq1,tq2,this,hml]
  simp
 ·obtain rfl:y=m:=by omega
  rw[hye (by omega)]
  rfl
 ·exact (hye (by omega)).symm)
abbrev jkE (n:Nat) (p:PD):List CV:=[.int .i64 n,penV p]
abbrev jkF (n:Nat) (p:PD):Prop×Res:=(n≤1000000,.ret (.vec .cell (List.replicate n (jeU p))))
noncomputable def sp_rblanks:Spec:=spOf (α:=Nat×PD) (fun⟨n,p⟩=>jkE n p) fun⟨n,p⟩=>jkF n p
theorem jbg (n:Nat) (p:PD):sp_rblanks (jkE n p)=some (jkF n p):=jak _ injS (n,p)
theorem jtn:Fresh Tryz.prog E0 51 sp_rblanks:=Fresh.of fun⟨n,p⟩ hG=>TF.intro (V:=(VV [(92,conF [.any] sp_rblank)] (.cons (jaa jhe) (Fresh.soundF jvr) GOk.nil) 21 0)) jgl rfl rfl (by
 dsimp only[jkE,jkF]at hG ⊢
 repeat' first|simp only[SA,seval,rdB,jeV,tq0,tq1,tq2]|refine tT ?_|refine Cos.row (t:=.cell) rfl ?_ rfl (Nat.le_refl _)|refine And.intro ?_ ?_|exact tC|(refine tI ?_;intro hyp)|intro hyp0|omega
 refine T.loop (fun k:Nat=>⟨[(3,.ptr 0 0 0),(5,.slice 1 0 6 n n),(10,.int .i64 n),(11,.int .i64 k)],[.box [.int .u32 p.fg,.int .u32 p.bg,.int .u8 p.attrs,.int .u16 p.link],.seq .cell (List.replicate k (jeU p)++List.replicate (n-k) default)]⟩) (fun k=>k≤n) (fun k=>n-k) 0 (by omega) (Cos.intro [0,1] [] rfl (by simp only[SA,seval,rdB,jeV,tq0,tq1,tq2];simp)) (fun k hk=>?_)
 repeat' first|simp only[SA,seval,rdB,jeV,tq0,tq1,tq2]|refine tT ?_|refine And.intro ?_ ?_|exact tC|(refine tI ?_;intro hyp)|intro hyp0|omega
 ·exact⟨k+1,by omega,by omega,Cos.intro [0,1] [] rfl (by rw[jCa n k (by omega)];simp only[SA,seval,rdB,jeV,tq0,tq1,tq2];simp)⟩
 ·obtain rfl:k=n:=by omega
  exact Cos.rowl (t:=.cell) (L:=List.replicate k (jeU p)) rfl (by simp) (by simp) (by simp) (by simp))
abbrev jvV (M:List (List CD)):List CV:=[.vec (.rows .cell) M]
abbrev jvW (M:List (List CD)):Prop×Res:=(M.flatten.length≤1000000∧M.length≤1000000,.ret (.agg [.int .i64 (M.getLastD []).length,.int .i64 M.length,.vec .cell M.flatten]))
noncomputable def sp_rgof:Spec:=spOf (α:=(List (List CD))) (fun M=>jvV M) fun M=>jvW M
theorem jbB (M:List (List CD)):sp_rgof (jvV M)=some (jvW M):=jak _ injS M
theorem jvX:Fresh Tryz.prog E0 35 sp_rgof:=Fresh.of fun M hG=>TF.intro (V:=(VV [] GOk.nil 29 0)) jjD rfl rfl (by
 dsimp only[jvV,jvW]at hG ⊢
 obtain⟨hl,hm⟩:=hG
 repeat' first|simp only[SA,seval,rdB,tq0,tq1,tq2]|refine tT ?_|refine And.intro ?_ ?_|exact tC|(refine tI ?_;intro hyp)|intro hyp0|omega
 refine T.loop (fun y:Nat=>⟨[(0,.vec (.rows .cell) M),(2,.ptr 0 0 0),(3,.ptr 1 0 0),(9,.int .i64 M.length),(10,.int .i64 y)],[.box [.int .i64 0,.int .i64 0,.nils],.box [.int .i64 ((M.take y).getLastD []).length,.int .i64 M.length,.slice 2 0 6 (M.take y).flatten.length (M.take y).flatten.length],.seq .cell (M.take y).flatten]⟩) (fun y=>y≤M.length) (fun y=>M.length-y) 0 (by omega) (Cos.intro [0,1,99] [] rfl (by simp only[SA,seval,rdB,tq0,tq1,tq2];simp[crs,crsL,jct])) (fun y hy=>?_)
 have htk:y<M.length→M.take (y+1)=M.take y++[M.getD y []]:=fun h=>joy h
 have hfl:y<M.length→(M.take y).flatten.length+(M.getD y []).length≤1000000:=fun h=>by
  have e:M.flatten=(M.take (y+1)).flatten++(M.drop (y+1)).flatten:=by rw[←List.flatten_append,List.take_append_drop]
  have:=congrArg List.length e
  rw[htk h]at this
  simp only[List.flatten_append,List.length_append,List.flatten_cons,List.flatten_nil,List.append_nil]at this
  omega
 repeat' first|simp only[SA,seval,rdB,tq0,tq1,tq2]|refine tT ?_|refine And.intro ?_ ?_|exact tC|(refine tI ?_;intro hyp)|intro hyp0|omega
 ·refine⟨y+1,by omega,by omega,Cos.intro [0,1,3] [] rfl ?_⟩
  rw[htk (by omega)]
  simp only[SA,seval,rdB,tq0,tq1,tq2,List.flatten_append,List.flatten_cons,List.flatten_nil]
  simp
 ·have e:M.take y=M:=List.take_of_length_le (by omega)
  rw[e]
  exact Cos.intro [2] [] rfl (by simp only[SA,seval,rdB,tq0,tq1,tq2];simp))
def pen0:PD:=⟨0,0,0,0⟩
abbrev blank0:CD:=⟨32,0,0,0,0,0⟩
abbrev jvY (k:Int) (r:Int):List CV:=[.int .i64 k,.int .i64 r]
abbrev jvZ (k:Int) (r:Int):Prop×Res:=(True,.ret (if je5 k r then .tup [.agg [.int .i64 k,.int .i64 r,.vec .cell (List.replicate (k.toNat*r.toNat) blank0)],.int .i64 0] else .tup [.agg [.int .i64 0,.int .i64 0,.vec .cell []],.int .i64 1]))
noncomputable def sp_gnew:Spec:=spOf (α:=Int×Int) (fun⟨k,r⟩=>jvY k r) fun⟨k,r⟩=>jvZ k r
theorem jl7 (k:Int) (r:Int):sp_gnew (jvY k r)=some (jvZ k r):=jak _ injS (k,r)
theorem jAX:Alias Tryz.prog E0 119 sp_gnew:=Alias.of fun⟨k,r⟩ hG=>TF.intro (V:=(VV [(96,conF [.any,.any] sp_fits),(126,conF [.any] sp_cblank)] (.cons (jaa jfO) (Fresh.soundF jvK) (.cons (jaa jdP) (Fresh.soundF jkA) GOk.nil)) 34 0)) jiz rfl rfl (by
 dsimp only[jvY,jvZ]at hG ⊢
 cases hw:je5 k r
 ·repeat' first|simp only[SA,seval,rdB,jcn,jav,tq0,tq1,tq2]|simp only[hw]|simp only[hw3]|refine tT ?_|refine Cos.intro [] [0,1,2,3,4,5,6,7,8,9] rfl ?_|refine And.intro ?_ ?_|exact tC|(refine tI ?_;intro hyp)|intro hyp0|omega
 ·have hfit:(1≤k∧k≤80)∧(1≤r∧r≤24):=by
   simp only[je5,HB,ne_eq,reduceCtorEq]at hw
   omega
  obtain⟨n,rfl⟩:∃n:Nat,k=n:=⟨k.toNat,by omega⟩
  obtain⟨m,rfl⟩:∃m:Nat,r=m:=⟨r.toNat,by omega⟩
  have hp:(n:Int)*m≤1920∧n*m≤1920∧(0:Int)≤(n:Int)*m:=by
   have h1:n*m≤80*24:=Nat.mul_le_mul (by omega) (by omega)
   have h2:((n*m:Nat):Int)=(n:Int)*m:=by simp
   omega
  have hcast:((n*m:Nat):Int)=(n:Int)*m:=by simp
  repeat' first|simp only[SA,seval,rdB,jcn,jav,tq0,tq1,tq2]|simp only[hw]|simp only[hw3]|refine tT ?_|refine Cos.intro [] [0,1,2,3,4,5,6,7,8,9] rfl ?_|refine And.intro ?_ ?_|exact tC|(refine tI ?_;intro hyp)|intro hyp0|omega
  refine T.loop (fun i:Nat=>⟨[(4,.ptr 0 0 0),(6,.ptr 1 0 0),(22,.int .i64 (n*m:Nat)),(23,.int .i64 i)],[.box [.int .i64 0,.int .i64 0,.nils],.box [.int .i64 n,.int .i64 m,.slice 2 0 6 (n*m) (n*m)],.seq .cell (List.replicate i blank0++List.replicate (n*m-i) default)]⟩) (fun i=>i≤n*m) (fun i=>n*m-i) 0 (by omega) (Cos.intro [0,2,1] [] rfl (by simp only[SA,seval,rdB,jcn,jav,tq0,tq1,tq2];simp)) (fun i hi=>?_)
  have hw3:jeU { fg:=0,bg:=0,attrs:=0,link:=0 }=blank0:=rfl
  repeat' first|simp only[SA,seval,rdB,jcn,jav,tq0,tq1,tq2]|simp only[hw]|simp only[hw3]|refine tT ?_|refine And.intro ?_ ?_|exact tC|(refine tI ?_;intro hyp)|intro hyp0|omega
  ·refine⟨i+1,by omega,by omega,Cos.intro [0,1,2] [] rfl ?_⟩
   rw[jCa _ i (by omega)]
   simp only[SA,seval,rdB,jcn,jav,tq0,tq1,tq2]
   simp
  ·obtain rfl:i=n*m:=by omega
   exact Cos.intro [] [2] rfl (by simp only[SA,seval,rdB,jcn,jav,tq0,tq1,tq2];simp))
end
end Go.Proofs.YtcfkfgkndncanaaGreatDoor
