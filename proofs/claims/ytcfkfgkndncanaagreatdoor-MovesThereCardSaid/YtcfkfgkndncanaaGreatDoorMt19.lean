/- Texts of this claim, merged by a program of this claim: FGrid. -/
import Derived.Test.YtcfkfgkndncanaaGreatDoorMt13
import Derived.Test.YtcfkfgkndncanaaGreatDoorMt17
import Derived.Test.YtcfkfgkndncanaaGreatDoorMt5
namespace Go.Proofs.YtcfkfgkndncanaaGreatDoor
set_option linter.unusedVariables false
set_option linter.unusedSimpArgs false
section
open Go.RowKit
set_option maxRecDepth 100000
set_option maxHeartbeats 4000000
theorem jxj {α:Type} (n k:Nat) (h:k < n) (a d:α):(List.replicate k a++List.replicate (n - k) d).set k a=List.replicate (k+1) a++List.replicate (n - (k+1)) d:=by
 rw [List.set_append_right _ _ (by simp),show n - k=n - (k+1)+1 by omega,List.replicate_succ,List.length_replicate,Nat.sub_self,List.set_cons_zero,List.replicate_succ']
 simp
theorem tq0 (a b:Nat):((a:Int) * (b:Int)).toNat=a * b:=by rw [← Int.natCast_mul]; rfl
theorem tq1 (a b:Nat):(((a:Int)+1) * (b:Int)).toNat=(a+1) * b:=tq0 (a+1) b
theorem tq2 (a b:Nat):(a+1) * b - a * b=b:=by rw [Nat.add_mul]; omega
def jdJ (cols rows:Int):Bool:=decide (1≤cols) && decide (cols≤80) && decide (1≤rows) && decide (rows≤24)
def jbm (L:List CD) (cols y:Nat):List CD:=(L.drop (y * cols)).take cols
def jbN (cols rows:Int) (L:List CD):Bool:=jdJ cols rows && ((L.length:Int) == cols * rows) && (List.range rows.toNat).all (fun y=>jcQ (jbm L cols.toNat y))
theorem juK {L:List CD} (h:CWs L) (n y:Nat):CWs (jbm L n y):=fun c hc=>h c (List.mem_of_mem_drop (List.mem_of_mem_take hc))
theorem jfU {y n N:Nat} (h:(y+1) * n≤N):0≤(y:Int) * n∧(y:Int) * n≤N∧0≤((y:Int)+1) * n∧((y:Int)+1) * n≤N∧((y:Int)+1) * n=y * n+n:=by
 have h1:((y:Int)+1) * n=y * n+n:=by rw [Int.add_mul,Int.one_mul]
 have h2:(0:Int)≤(y:Int) * n:=Int.mul_nonneg (by omega) (by omega)
 have h3:(((y+1) * n:Nat):Int)=((y:Int)+1) * n:=by simp
 omega
noncomputable def sp_fits:Spec:=spOf (α:=Int × Int) (fun ⟨k,r⟩=>[.int .i64 k,.int .i64 r]) fun ⟨k,r⟩=>(True,.ret (.bool (jdJ k r)))
theorem jcd (k:Int) (r:Int):sp_fits [.int .i64 k,.int .i64 r]=some (True,.ret (.bool (jdJ k r))):=jar (α:=Int × Int) _ (fun ⟨k,r⟩ ⟨k',r'⟩ h=>by first | simpa [CP] using h | (simp [CP] at h ⊢; grind)) (k,r)
theorem jvX:Alias Tryz.prog E0 96 sp_fits:=Alias.of fun ⟨k,r⟩ hG=>TF.intro (V:=(VV [] GOk.nil 19 0)) jfj rfl rfl (by
 dsimp only at hG ⊢
 repeat' first | simp only [SB,E,seval,rdB,ne_eq,implies_true,tq0,tq1,tq2] | refine T.seq ?_ | refine T.stm ?_ | refine T.rg ?_ | refine jac ?_ | refine jad ?_ | refine jae ?_ | refine T.cond ?_ | refine T.skip ?_ | refine T.ret ?_ | refine T.exit ?_ | refine T.block ?_ | refine Cos.intro [] [] rfl ?_ | refine And.intro ?_ ?_ | (intro p0; have hyp:=p0; (try simp only [HB,ne_eq,reduceCtorEq] at hyp); (try simp only [p0]); (try clear p0); try (exfalso; omega; done)) | omega
 rfl)
theorem jrJ:Fresh Tryz.prog E0 96 sp_fits:=Alias.fresh jvX (fun x=>rfl)
noncomputable def sp_grow:Spec:=spOf (α:=Nat × Int × (List CD) × Nat) (fun ⟨n,r,L,y⟩=>[.agg [.int .i64 n,.int .i64 r,.vec .cell L],.int .i64 y]) fun ⟨n,r,L,y⟩=>((y+1) * n≤L.length∧L.length≤1000000∧y≤1000000,.ret (.vec .cell (jbm L n y)))
theorem jbq (n:Nat) (r:Int) (L:List CD) (y:Nat):sp_grow [.agg [.int .i64 n,.int .i64 r,.vec .cell L],.int .i64 y]=some ((y+1) * n≤L.length∧L.length≤1000000∧y≤1000000,.ret (.vec .cell (jbm L n y))):=jar (α:=Nat × Int × (List CD) × Nat) _ (fun ⟨n,r,L,y⟩ ⟨n',r',L',y'⟩ h=>by first | simpa [CP] using h | (simp [CP] at h ⊢; grind)) (n,r,L,y)
theorem jrK:Alias Tryz.prog E0 98 sp_grow:=Alias.of fun ⟨n,r,L,y⟩ hG=>TF.intro (V:=(VV [] GOk.nil 22 0)) jeW rfl rfl (by
 dsimp only at hG ⊢
 obtain ⟨h1,h2,h4⟩:=hG
 have hm:=jfU h1
 have hm2:(y+1) * n=y * n+n:=by rw [Nat.add_mul]; omega
 have hy:y * n≤1000000:=by omega
 repeat' first | simp only [SB,E,seval,rdB,ne_eq,implies_true,tq0,tq1,tq2] | refine T.seq ?_ | refine T.stm ?_ | refine T.rg ?_ | refine jac ?_ | refine jad ?_ | refine jae ?_ | refine T.cond ?_ | refine T.skip ?_ | refine T.ret ?_ | refine T.exit ?_ | refine T.block ?_ | refine Cos.intro [] [0,1,2,3,4,5,6,7,8,9] rfl ?_ | refine And.intro ?_ ?_ | (intro p0; have hyp:=p0; (try simp only [HB,ne_eq,reduceCtorEq] at hyp); (try simp only [p0]); (try clear p0); try (exfalso; omega; done)) | omega
 rfl)
noncomputable def msp_growM:MSpec:=jcD (α:=Nat × Int × (List CD) × Nat × Nat × Nat × Nat) (fun ⟨n,r,L,y,i,m,c⟩=>([.agg [.int .i64 n,.int .i64 r,.slice 0 i 6 m c],.int .i64 y],[.seq .cell L])) fun ⟨n,r,L,y,i,m,c⟩=>((y+1) * n≤m∧m≤c∧c≤1000000∧y≤1000000,.ret (.slice 0 (i+y * n) 6 n n),[.seq .cell L])
theorem jbr (n:Nat) (r:Int) (L:List CD) (y:Nat) (i:Nat) (m:Nat) (c:Nat):msp_growM [.agg [.int .i64 n,.int .i64 r,.slice 0 i 6 m c],.int .i64 y] [.seq .cell L]=some ((y+1) * n≤m∧m≤c∧c≤1000000∧y≤1000000,.ret (.slice 0 (i+y * n) 6 n n),[.seq .cell L]):=jbd (α:=Nat × Int × (List CD) × Nat × Nat × Nat × Nat) _ (fun ⟨n,r,L,y,i,m,c⟩ ⟨n',r',L',y',i',m',c'⟩ h=>by first | rfl | simpa [CP,jaP] using h | (simp [CP,jaP] at h ⊢; grind)) (n,r,L,y,i,m,c)
theorem jtX:MutF Tryz.prog E0 98 msp_growM:=MutF.of fun ⟨n,r,L,y,i,m,c⟩ hG=>TF.intro (V:=(VV [] GOk.nil 22 1)) jeW rfl rfl (by
 dsimp only at hG ⊢
 obtain ⟨h1,h2,h3,h4⟩:=hG
 have hm:=jfU h1
 have hm2:(y+1) * n=y * n+n:=by rw [Nat.add_mul]; omega
 have hy:y * n≤1000000:=by omega
 repeat' first | simp only [SB,E,MB,seval,rdB,ne_eq,implies_true,tq0,tq1,tq2] | refine T.seq ?_ | refine T.stm ?_ | refine T.rg ?_ | refine jac ?_ | refine jad ?_ | refine jae ?_ | refine T.cond ?_ | refine T.skip ?_ | refine T.ret ?_ | refine T.exit ?_ | refine T.block ?_ | refine Cos.intro [0] [] rfl ?_ | refine And.intro ?_ ?_ | (intro p0; have hyp:=p0; (try simp only [HB,ne_eq,reduceCtorEq] at hyp); (try simp only [p0]); (try clear p0); try (exfalso; omega; done)) | omega)
noncomputable def sp_gmay:Spec:=spOf (α:=Int × Int × (List CD)) (fun ⟨k,r,L⟩=>[.agg [.int .i64 k,.int .i64 r,.vec .cell L]]) fun ⟨k,r,L⟩=>(CWs L∧L.length≤1000000,.ret (.bool (jbN k r L)))
theorem jdZ (k:Int) (r:Int) (L:List CD):sp_gmay [.agg [.int .i64 k,.int .i64 r,.vec .cell L]]=some (CWs L∧L.length≤1000000,.ret (.bool (jbN k r L))):=jar (α:=Int × Int × (List CD)) _ (fun ⟨k,r,L⟩ ⟨k',r',L'⟩ h=>by first | simpa [CP] using h | (simp [CP] at h ⊢; grind)) (k,r,L)
theorem jvY:Alias Tryz.prog E0 56 sp_gmay:=Alias.of fun ⟨k,r,L⟩ hG=>TF.intro (V:=(VV [(96,conF [.any,.any] sp_fits),(98,conA [.agg [.any,.any,.sl .cell],.any] sp_grow),(97,conF [.sl .cell] sp_crow)] (.cons (jaa jfj) (Fresh.soundF jrJ) (.cons (jaa jeW) (Alias.soundA jrK) (.cons (jaa jff) (Fresh.soundF jvU) GOk.nil))) 32 0)) jgf rfl rfl (by
 dsimp only at hG ⊢
 obtain ⟨hc,hl⟩:=hG
 have hf:jdJ k r=true→(1≤k∧k≤80)∧(1≤r∧r≤24):=fun h=>by
  simp only [jdJ,HB,ne_eq,reduceCtorEq] at h
  omega
 have hp:jdJ k r=true→0≤k * r∧k * r≤1920:=fun h=>by
  obtain ⟨⟨a1,a2⟩,a3,a4⟩:=hf h
  exact ⟨Int.mul_nonneg (by omega) (by omega),Int.le_trans (Int.mul_le_mul_of_nonneg_right a2 (by omega)) (by omega)⟩
 repeat' first | simp only [SB,E,seval,rdB,ne_eq,implies_true,jcd,jbq,jgd,tq0,tq1,tq2] | refine T.seq ?_ | refine T.stm ?_ | refine T.rg ?_ | refine jac ?_ | refine jad ?_ | refine jae ?_ | refine T.cond ?_ | refine T.skip ?_ | refine T.ret ?_ | refine T.exit ?_ | refine T.block ?_ | refine Cos.intro [] [] rfl ?_ | refine And.intro ?_ ?_ | (intro p0; have hyp:=p0; (try simp only [HB,ne_eq,reduceCtorEq] at hyp); (try simp only [p0]); (try clear p0); try (exfalso; omega; done)) | omega
 ·have:=hp hyp
  omega
 ·have:=hp hyp
  omega
 ·rcases hyp with q | q
  ·simp only [jbN,q,Bool.false_and]
  ·simp only [jbN,ibeq,decide_eq_false q,Bool.and_false,Bool.false_and]
 obtain ⟨hfit,hlen⟩:=hyp
 obtain ⟨⟨a1,a2⟩,a3,a4⟩:=hf hfit
 obtain ⟨n,rfl⟩:∃ n:Nat,k=n:=⟨k.toNat,by omega⟩
 obtain ⟨m,rfl⟩:∃ m:Nat,r=m:=⟨r.toNat,by omega⟩
 have hgr:jbN n m L=(List.range m).all (fun y=>jcQ (jbm L n y)):=by
  simp only [jbN,hfit,ibeq,decide_eq_true hlen,Bool.true_and,Int.toNat_natCast]
 have hln:L.length=n * m:=by
  have:(L.length:Int)=((n * m:Nat):Int):=by rw [hlen]; simp
  omega
 refine T.loop (fun y:Nat=>⟨[(1,.ptr 0 0 0),(22,.int .i64 m),(23,.int .i64 y)],[.box [.int .i64 n,.int .i64 m,.vec .cell L]]⟩) (fun y=>y≤m∧∀ j,j < y→jcQ (jbm L n j)=true) (fun y=>m - y) 0 ⟨by omega,fun j hj=>by omega⟩ (Cos.intro [0] [] rfl (by simp only [SB,E,seval,rdB,ne_eq,implies_true,jcd,jbq,jgd,tq0,tq1,tq2])) (fun y ⟨hy,hall⟩=>?_)
 have hrow:y < m→(y+1) * n≤L.length:=fun h=>by
  rw [hln,Nat.mul_comm n m]
  exact Nat.mul_le_mul_right n h
 have hcr:=juK hc n y
 have hrl:(jbm L n y).length≤1000000:=by simp [jbm]; omega
 repeat' first | exact hcr | simp only [SB,E,seval,rdB,ne_eq,implies_true,jcd,jbq,jgd,tq0,tq1,tq2] | refine T.seq ?_ | refine T.stm ?_ | refine T.rg ?_ | refine jac ?_ | refine jad ?_ | refine jae ?_ | refine T.cond ?_ | refine T.skip ?_ | refine T.ret ?_ | refine T.exit ?_ | refine T.block ?_ | refine Cos.intro [] [] rfl ?_ | refine And.intro ?_ ?_ | (intro p0; have hyp:=p0; (try simp only [HB,ne_eq,reduceCtorEq] at hyp); (try simp only [p0]); (try clear p0); try (exfalso; omega; done)) | omega
 ·rw [hgr,jbQ (by omega:y < m) hyp]
 ·exact ⟨y+1,⟨by omega,jeb (f:=fun j=>jcQ (jbm L n j)) hyp hall⟩,by omega,Cos.intro [0] [] rfl (by simp only [SB,E,seval,rdB,ne_eq,implies_true,jcd,jbq,jgd,tq0,tq1,tq2]; simp)⟩
 ·rw [hgr,jcX (n:=m) (k:=y) (by omega) hall])
theorem jrL:Fresh Tryz.prog E0 56 sp_gmay:=Alias.fresh jvY (fun x=>rfl)
def ja4 (L:List CD) (k r:Nat):List (List CD):=(List.range r).map (jbm L k)
noncomputable def sp_rsameg:Spec:=spOf (α:=Int × Int × (List CD) × Int × Int × (List CD)) (fun ⟨k,r,L,k',r',L'⟩=>[.agg [.int .i64 k,.int .i64 r,.vec .cell L],.agg [.int .i64 k',.int .i64 r',.vec .cell L']]) fun ⟨k,r,L,k',r',L'⟩=>(L.length≤4611686018427387904∧L'.length≤4611686018427387904,.ret (.bool (decide (k=k') && decide (r=r') && decide (L=L'))))
theorem jmD (k:Int) (r:Int) (L:List CD) (k':Int) (r':Int) (L':List CD):sp_rsameg [.agg [.int .i64 k,.int .i64 r,.vec .cell L],.agg [.int .i64 k',.int .i64 r',.vec .cell L']]=some (L.length≤4611686018427387904∧L'.length≤4611686018427387904,.ret (.bool (decide (k=k') && decide (r=r') && decide (L=L')))):=jar (α:=Int × Int × (List CD) × Int × Int × (List CD)) _ (fun ⟨k,r,L,k',r',L'⟩ ⟨k',r',L',k'',r'',L''⟩ h=>by first | simpa [CP] using h | (simp [CP] at h ⊢; grind)) (k,r,L,k',r',L')
theorem jrM:Alias Tryz.prog E0 41 sp_rsameg:=Alias.of fun ⟨k,r,L,k',r',L'⟩ hG=>TF.intro (V:=(VV [(75,conF [.sl .cell,.sl .cell] sp_rsame)] (.cons (jaa jkL) (Fresh.soundF jtS) GOk.nil) 24 0)) jkQ rfl rfl (by
 dsimp only at hG ⊢
 obtain ⟨h1,h2⟩:=hG
 repeat' first | simp only [SB,E,seval,rdB,ne_eq,implies_true,jnw,tq0,tq1,tq2] | refine T.seq ?_ | refine T.stm ?_ | refine T.rg ?_ | refine jac ?_ | refine jad ?_ | refine jae ?_ | refine T.cond ?_ | refine T.skip ?_ | refine T.ret ?_ | refine T.exit ?_ | refine T.block ?_ | refine Cos.intro [] [] rfl ?_ | refine And.intro ?_ ?_ | (intro p0; have hyp:=p0; (try simp only [HB,ne_eq,reduceCtorEq] at hyp); (try simp only [p0]); (try clear p0); try (exfalso; omega; done)) | omega)
theorem jrN:Fresh Tryz.prog E0 41 sp_rsameg:=Alias.fresh jrM (fun x=>rfl)
noncomputable def sp_rows:Spec:=spOf (α:=Int × Int × (List CD)) (fun ⟨k,r,L⟩=>[.agg [.int .i64 k,.int .i64 r,.vec .cell L]]) fun ⟨k,r,L⟩=>(CWs L∧L.length≤1000000,.ret (.tup [.vec (.rows .cell) (if jbN k r L then ja4 L k.toNat r.toNat else []),.bool (jbN k r L)]))
theorem jeX (k:Int) (r:Int) (L:List CD):sp_rows [.agg [.int .i64 k,.int .i64 r,.vec .cell L]]=some (CWs L∧L.length≤1000000,.ret (.tup [.vec (.rows .cell) (if jbN k r L then ja4 L k.toNat r.toNat else []),.bool (jbN k r L)])):=jar (α:=Int × Int × (List CD)) _ (fun ⟨k,r,L⟩ ⟨k',r',L'⟩ h=>by first | simpa [CP] using h | (simp [CP] at h ⊢; grind)) (k,r,L)
theorem jvZ:Alias Tryz.prog E0 42 sp_rows:=Alias.of fun ⟨k,r,L⟩ hG=>TF.intro (V:=(VV [(72,conF [.sl .cell] sp_rcopy),(76,conF [.sl .cell] sp_rrow)] (.cons (jaa jkK) (Fresh.soundF jtU) (.cons (jaa jik) (Fresh.soundF jvW) GOk.nil)) 66 0)) jkP rfl rfl (by
 dsimp only at hG ⊢
 obtain ⟨hc,hl⟩:=hG
 have hf:jdJ k r=true→(1≤k∧k≤80)∧(1≤r∧r≤24):=fun h=>by
  simp only [jdJ,HB,ne_eq,reduceCtorEq] at h
  omega
 have hp:(1≤k∧k≤80)∧(1≤r∧r≤24)→0≤k * r∧k * r≤1920:=fun ⟨⟨a1,a2⟩,a3,a4⟩ =>
  ⟨Int.mul_nonneg (by omega) (by omega),Int.le_trans (Int.mul_le_mul_of_nonneg_right a2 (by omega)) (by omega)⟩
 have hg0:(((k < 1∨80 < k)∨r < 1)∨24 < r)∨¬ (L.length:Int)=k * r→jbN k r L=false:=fun h=>by
  rcases h with h | h
  ·have:jdJ k r=false:=by
    cases e:jdJ k r with
    | false=>rfl
    | true=>have:=hf e; omega
   simp only [jbN,this,Bool.false_and]
  ·simp only [jbN,ibeq,decide_eq_false h,Bool.and_false,Bool.false_and]
 repeat' first | simp only [SB,E,seval,rdB,ne_eq,implies_true,jfh,jge,tq0,tq1,tq2] | simp only [hw] | simp only [hw2] | simp only [hw3] | refine T.seq ?_ | refine T.stm ?_ | refine T.rg ?_ | refine jac ?_ | refine jad ?_ | refine jae ?_ | refine T.cond ?_ | refine T.skip ?_ | refine T.ret ?_ | refine T.exit ?_ | refine T.block ?_ | refine Cos.intro [] [0,1,2,3,4,5,6,7,8,9] rfl ?_ | refine And.intro ?_ ?_ | (intro p0; have hyp:=p0; (try simp only [HB,ne_eq,reduceCtorEq] at hyp); (try simp only [p0]); (try clear p0); try (exfalso; omega; done)) | omega
 ·rw [hg0 hyp]
  rfl
 ·exact (hg0 hyp).symm
 obtain ⟨hfit,hlen⟩:=hyp
 obtain ⟨n,rfl⟩:∃ n:Nat,k=n:=⟨k.toNat,by omega⟩
 obtain ⟨m,rfl⟩:∃ m:Nat,r=m:=⟨r.toNat,by omega⟩
 have hfb:jdJ n m=true:=by simp only [jdJ,HB,ne_eq,reduceCtorEq]; omega
 have hgr:jbN n m L=(List.range m).all (fun y=>jcQ (jbm L n y)):=by
  simp only [jbN,hfb,ibeq,decide_eq_true hlen,Bool.true_and,Int.toNat_natCast]
 have hln:L.length=n * m:=by
  have:(L.length:Int)=((n * m:Nat):Int):=by rw [hlen]; simp
  omega
 refine T.loop (fun y:Nat=>⟨[(1,.ptr 0 0 0),(4,.slice 1 0 1 y y),(5,.int .i64 y)],[.box [.int .i64 n,.int .i64 m,.vec .cell L],.seq (.rows .cell) (ja4 L n y)]⟩) (fun y=>y≤m∧∀ j,j < y→jcQ (jbm L n j)=true) (fun y=>m - y) 0 ⟨by omega,fun j hj=>by omega⟩ (Cos.intro [0,1] [] rfl (by simp only [SB,E,seval,rdB,ne_eq,implies_true,jfh,jge,tq0,tq1,tq2]; simp [ja4])) (fun y ⟨hy,hall⟩=>?_)
 have hrow:y < m→(y+1) * n≤L.length:=fun h=>by
  rw [hln,Nat.mul_comm n m]
  exact Nat.mul_le_mul_right n h
 have hcr:=juK hc n y
 have hrl:(jbm L n y).length≤1000000:=by simp [jbm]; omega
 have hml:(ja4 L n y).length=y:=by simp [ja4]
 have hmf:y < m→0≤(y:Int) * n∧(y:Int) * n≤1000000∧(y:Int) * n+n≤L.length:=fun h=>by
  have:=jfU (hrow h)
  omega
 have hw:((y:Int) * n+n).toNat=y * n+n:=by rw [← tq0,← Int.toNat_add_nat (Int.mul_nonneg (by omega) (by omega))]
 have hw3:List.take y (ja4 L n y)=ja4 L n y:=List.take_of_length_le (by omega)
 have hw2:List.take n (List.drop (y * n) L)=jbm L n y:=rfl
 have hno:y < m→jcQ (jbm L n y)=false→jbN n m L=false:=fun h q=>by rw [hgr,jbQ h q]
 have hye:¬ y < m→jbN n m L=true:=fun h=>by rw [hgr,jcX (n:=m) (k:=y) h hall]
 repeat' first | exact hcr | simp only [SB,E,seval,rdB,ne_eq,implies_true,jfh,jge,tq0,tq1,tq2] | simp only [hw] | simp only [hw2] | simp only [hw3] | refine T.seq ?_ | refine T.stm ?_ | refine T.rg ?_ | refine jac ?_ | refine jad ?_ | refine jae ?_ | refine T.cond ?_ | refine T.skip ?_ | refine T.ret ?_ | refine T.exit ?_ | refine T.block ?_ | refine Cos.intro [] [0,1,2,3,4,5,6,7,8,9] rfl ?_ | refine And.intro ?_ ?_ | (intro p0; have hyp:=p0; (try simp only [HB,ne_eq,reduceCtorEq] at hyp); (try simp only [p0]); (try clear p0); try (exfalso; omega; done)) | omega
 ·rw [hno (by omega) hyp]
  rfl
 ·exact (hno (by omega) hyp).symm
 ·refine ⟨y+1,⟨by omega,jeb (f:=fun j=>jcQ (jbm L n j)) hyp hall⟩,by omega,Cos.intro [0,3] [] rfl ?_⟩
  have:ja4 L n (y+1)=ja4 L n y++[jbm L n y]:=by simp [ja4,List.range_succ]
  simp only [SB,E,seval,rdB,ne_eq,implies_true,jfh,jge,tq0,tq1,tq2,this,hml]
  simp
 ·obtain rfl:y=m:=by omega
  rw [hye (by omega)]
  rfl
 ·exact (hye (by omega)).symm)
def pen0:PD:=⟨0,0,0,0⟩
abbrev blank0:CD:=⟨32,0,0,0,0,0⟩
noncomputable def sp_gnew:Spec:=spOf (α:=Int × Int) (fun ⟨k,r⟩=>[.int .i64 k,.int .i64 r]) fun ⟨k,r⟩=>(True,.ret (if jdJ k r then .tup [.agg [.int .i64 k,.int .i64 r,.vec .cell (List.replicate (k.toNat * r.toNat) blank0)],.int .i64 0] else .tup [.agg [.int .i64 0,.int .i64 0,.vec .cell []],.int .i64 1]))
theorem jkR (k:Int) (r:Int):sp_gnew [.int .i64 k,.int .i64 r]=some (True,.ret (if jdJ k r then .tup [.agg [.int .i64 k,.int .i64 r,.vec .cell (List.replicate (k.toNat * r.toNat) blank0)],.int .i64 0] else .tup [.agg [.int .i64 0,.int .i64 0,.vec .cell []],.int .i64 1])):=jar (α:=Int × Int) _ (fun ⟨k,r⟩ ⟨k',r'⟩ h=>by first | simpa [CP] using h | (simp [CP] at h ⊢; grind)) (k,r)
theorem jv0:Alias Tryz.prog E0 119 sp_gnew:=Alias.of fun ⟨k,r⟩ hG=>TF.intro (V:=(VV [(96,conF [.any,.any] sp_fits),(126,conF [.any] sp_cblank)] (.cons (jaa jfj) (Fresh.soundF jrJ) (.cons (jaa jdw) (Fresh.soundF jjz) GOk.nil)) 34 0)) jh0 rfl rfl (by
 dsimp only at hG ⊢
 cases hw:jdJ k r
 ·repeat' first | simp only [SB,E,seval,rdB,ne_eq,implies_true,jcd,jaw,tq0,tq1,tq2] | simp only [hw] | simp only [hw3] | refine T.seq ?_ | refine T.stm ?_ | refine T.rg ?_ | refine jac ?_ | refine jad ?_ | refine jae ?_ | refine T.cond ?_ | refine T.skip ?_ | refine T.ret ?_ | refine T.exit ?_ | refine T.block ?_ | refine Cos.intro [] [0,1,2,3,4,5,6,7,8,9] rfl ?_ | refine And.intro ?_ ?_ | (intro p0; have hyp:=p0; (try simp only [HB,ne_eq,reduceCtorEq] at hyp); (try simp only [p0]); (try clear p0); try (exfalso; omega; done)) | omega
 ·have hfit:(1≤k∧k≤80)∧(1≤r∧r≤24):=by
   simp only [jdJ,HB,ne_eq,reduceCtorEq] at hw
   omega
  obtain ⟨n,rfl⟩:∃ n:Nat,k=n:=⟨k.toNat,by omega⟩
  obtain ⟨m,rfl⟩:∃ m:Nat,r=m:=⟨r.toNat,by omega⟩
  have hp:(n:Int) * m≤1920∧n * m≤1920∧(0:Int)≤(n:Int) * m:=by
   have h1:n * m≤80 * 24:=Nat.mul_le_mul (by omega) (by omega)
   have h2:((n * m:Nat):Int)=(n:Int) * m:=by simp
   omega
  have hcast:((n * m:Nat):Int)=(n:Int) * m:=by simp
  repeat' first | simp only [SB,E,seval,rdB,ne_eq,implies_true,jcd,jaw,tq0,tq1,tq2] | simp only [hw] | simp only [hw3] | refine T.seq ?_ | refine T.stm ?_ | refine T.rg ?_ | refine jac ?_ | refine jad ?_ | refine jae ?_ | refine T.cond ?_ | refine T.skip ?_ | refine T.ret ?_ | refine T.exit ?_ | refine T.block ?_ | refine Cos.intro [] [0,1,2,3,4,5,6,7,8,9] rfl ?_ | refine And.intro ?_ ?_ | (intro p0; have hyp:=p0; (try simp only [HB,ne_eq,reduceCtorEq] at hyp); (try simp only [p0]); (try clear p0); try (exfalso; omega; done)) | omega
  refine T.loop (fun i:Nat=>⟨[(4,.ptr 0 0 0),(6,.ptr 1 0 0),(22,.int .i64 (n * m:Nat)),(23,.int .i64 i)],[.box [.int .i64 0,.int .i64 0,.nils],.box [.int .i64 n,.int .i64 m,.slice 2 0 6 (n * m) (n * m)],.seq .cell (List.replicate i blank0++List.replicate (n * m - i) default)]⟩) (fun i=>i≤n * m) (fun i=>n * m - i) 0 (by omega) (Cos.intro [0,2,1] [] rfl (by simp only [SB,E,seval,rdB,ne_eq,implies_true,jcd,jaw,tq0,tq1,tq2]; simp)) (fun i hi=>?_)
  have hw3:jgv { fg:=0,bg:=0,attrs:=0,link:=0 }=blank0:=rfl
  repeat' first | simp only [SB,E,seval,rdB,ne_eq,implies_true,jcd,jaw,tq0,tq1,tq2] | simp only [hw] | simp only [hw3] | apply tA | apply tB | apply tC | apply tD | apply tE | apply tF | apply tG | apply tH | apply tI | apply tJ | apply tK | apply And.intro | (intro p0; have hyp:=p0; (try simp only [HB,ne_eq,reduceCtorEq] at hyp); (try simp only [p0]); (try clear p0); try (exfalso; omega; done)) | omega
  ·refine ⟨i+1,by omega,by omega,Cos.intro [0,1,2] [] rfl ?_⟩
   rw [jxj _ i (by omega)]
   simp only [SB,E,seval,rdB,ne_eq,implies_true,jcd,jaw,tq0,tq1,tq2]
   simp
  ·obtain rfl:i=n * m:=by omega
   exact Cos.intro [] [2] rfl (by simp only [SB,E,seval,rdB,ne_eq,implies_true,jcd,jaw,tq0,tq1,tq2]; simp))
end
end Go.Proofs.YtcfkfgkndncanaaGreatDoor
