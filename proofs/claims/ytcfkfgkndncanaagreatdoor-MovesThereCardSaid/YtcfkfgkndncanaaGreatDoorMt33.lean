/- Texts of this claim, merged by a program of this claim: FApply3. -/
import Derived.Test.YtcfkfgkndncanaaGreatDoorMt32
namespace Go.Proofs.YtcfkfgkndncanaaGreatDoor
set_option linter.unusedVariables false
set_option linter.unusedSimpArgs false
section
open Go.RowKit
set_option maxRecDepth 100000
set_option maxHeartbeats 4000000
def Szd (k r:Int) (L:List CD):Prop:=(1≤k∧k≤80)∧(1≤r∧r≤24)∧L.length=k.toNat * r.toNat
theorem Szd.le {k r:Int} {L:List CD} (h:Szd k r L):L.length≤1920:=by
 obtain ⟨h1,h2,h3⟩:=h
 have:k.toNat * r.toNat≤80 * 24:=Nat.mul_le_mul (by omega) (by omega)
 omega
theorem jst {k r v:Nat} (h:v+1≤r):(v+1) * k≤k * r:=by
 rw [Nat.mul_comm k r]
 exact Nat.mul_le_mul_right k h
def Few (n:Nat):Prop:=(n:Int) < 18446744073709551616
noncomputable def jgX:MSpec:=jcD (α:=Int × Int × (List CD) × Int × Int × Bool × Int × ByteArray × (List ByteArray) × (List ByteArray) × (List Int) × Nat) (fun ⟨k,r,L,x,y,hd,mo,ti,l,more,d,a⟩=>([.ptr 0 0 0],[RB 2 k r L.length x y hd mo ti l more,rdr d a 0,.seq .cell L])) fun ⟨k,r,L,x,y,hd,mo,ti,l,more,d,a⟩=>(RdOk d a∧Szd k r L,.ret (.tup []),[RB 3 k r L.length x y hd mo ti l more,rdr d (cpsG d a k.toNat r.toNat L).2.1 0,.dead,.seq .cell (cpsG d a k.toNat r.toNat L).2.2])
theorem jgY:∀ (x y:Int × Int × (List CD) × Int × Int × Bool × Int × ByteArray × (List ByteArray) × (List ByteArray) × (List Int) × Nat),(fun (⟨k,r,L,x,y,hd,mo,ti,l,more,d,a⟩:Int × Int × (List CD) × Int × Int × Bool × Int × ByteArray × (List ByteArray) × (List ByteArray) × (List Int) × Nat)=>(([.ptr 0 0 0],[RB 2 k r L.length x y hd mo ti l more,rdr d a 0,.seq .cell L]):List CV × KH)) x=(fun (⟨k,r,L,x,y,hd,mo,ti,l,more,d,a⟩:Int × Int × (List CD) × Int × Int × Bool × Int × ByteArray × (List ByteArray) × (List ByteArray) × (List Int) × Nat)=>(([.ptr 0 0 0],[RB 2 k r L.length x y hd mo ti l more,rdr d a 0,.seq .cell L]):List CV × KH)) y→x=y:=fun ⟨k,r,L,x,y,hd,mo,ti,l,more,d,a⟩ ⟨k',r',L',x',y',hd',mo',ti',l',more',d',a'⟩ h=>by first | rfl | simpa [CP,jaP] using h | (simp [CP,jaP] at h ⊢; grind)
theorem jau (k:Int) (r:Int) (L:List CD) (x:Int) (y:Int) (hd:Bool) (mo:Int) (ti:ByteArray) (l:List ByteArray) (more:List ByteArray) (d:List Int) (a:Nat):jgX [.ptr 0 0 0] [RB 2 k r L.length x y hd mo ti l more,rdr d a 0,.seq .cell L]=some (RdOk d a∧Szd k r L,.ret (.tup []),[RB 3 k r L.length x y hd mo ti l more,rdr d (cpsG d a k.toNat r.toNat L).2.1 0,.dead,.seq .cell (cpsG d a k.toNat r.toNat L).2.2]):=jbd (α:=Int × Int × (List CD) × Int × Int × Bool × Int × ByteArray × (List ByteArray) × (List ByteArray) × (List Int) × Nat) _ jgY (k,r,L,x,y,hd,mo,ti,l,more,d,a)
noncomputable def esp_rcopies:ESpec:=jix (α:=Int × Int × (List CD) × Int × Int × Bool × Int × ByteArray × (List ByteArray) × (List ByteArray) × (List Int) × Nat) (fun ⟨k,r,L,x,y,hd,mo,ti,l,more,d,a⟩=>([.ptr 0 0 0],[RB 2 k r L.length x y hd mo ti l more,rdr d a 0,.seq .cell L])) fun ⟨k,r,L,x,y,hd,mo,ti,l,more,d,a⟩=>(cpsG d a k.toNat r.toNat L).1
theorem jav (k:Int) (r:Int) (L:List CD) (x:Int) (y:Int) (hd:Bool) (mo:Int) (ti:ByteArray) (l:List ByteArray) (more:List ByteArray) (d:List Int) (a:Nat):esp_rcopies [.ptr 0 0 0] [RB 2 k r L.length x y hd mo ti l more,rdr d a 0,.seq .cell L]=(cpsG d a k.toNat r.toNat L).1:=jdi (α:=Int × Int × (List CD) × Int × Int × Bool × Int × ByteArray × (List ByteArray) × (List ByteArray) × (List Int) × Nat) _ jgY (k,r,L,x,y,hd,mo,ti,l,more,d,a)
theorem jp6:MutP Tryz.prog E0 66 jgX esp_rcopies:=MutP.of jgY fun ⟨k,r,L,x,y,hd,mo,ti,l,more,d,a⟩ hG=>TF.intro (V:=(VV [(24,conT [.sl .cell] sp_clone),(104,conP jiM esp_some),(62,conP jfo esp_upto),(105,selC (conM msp_mrowM) (conA [.agg [.any,.any,.sl .cell,.any,.any,.any,.any,.any,.sl .str],.any] sp_mrow))] (.cons (jaa ja8) (Fresh.soundT jgc) (.cons (jaa jcx) (MutP.soundP jrT) (.cons (jaa jbp) (MutP.soundP jjF) (.cons (jaa jeg) (jkX (MutF.soundM juc) (Alias.soundA jsr)) GOk.nil)))) 53 3)) jc8 rfl rfl (by
 dsimp only at hG ⊢
 obtain ⟨hr0,hz⟩:=hG
 have hle:=hz.le
 obtain ⟨hk,hr,hl⟩:=hz
 have hr1:=hr0
 obtain ⟨h1,h2,h3⟩:=hr0
 obtain ⟨k,rfl⟩:∃ n:Nat,k=n:=⟨k.toNat,by omega⟩
 obtain ⟨r,rfl⟩:∃ n:Nat,r=n:=⟨r.toNat,by omega⟩
 simp only [Int.toNat_natCast] at hl ⊢
 have hl6:L.length≤1000000:=by omega
 have hv:=jaR h3 a
 by_cases e1:jfE d a=0
 ·have hW:cpsG d a k r L=cpG d k r L (varV d a).toNat (a+varU d a) 0 L:=by rw [cpsG,if_neg (by simp [e1])]
  rw [hW]
  generalize hWg:cpG d k r L (varV d a).toNat (a+varU d a) 0 L=W
  have hw:=e1
  repeat' first | exact hr1 | exact hl6 | simp only [PB,SB,E,MB,seval,rdB,ne_eq,implies_true,jai,jaI,jaJ,jaf,jag,jb1,jaZ,jbY,tq0,tq1,tq2] | simp only [hw] | simp only [hw2] | apply tA | apply tB | apply tC | apply tD | apply tE | apply tF | apply tG | apply tH | apply tI | apply tJ | apply tK | apply And.intro | (intro p0; have hyp:=p0; (try simp only [HB,ne_eq,reduceCtorEq] at hyp); (try simp only [p0]); (try clear p0); try (exfalso; omega; done)) | omega
  have hr2:RdOk d (a+varU d a):=⟨jbx h1,h2,h3⟩
  have hn0:((varV d a).toNat:Int)=varV d a:=by omega
  have hn1:((varV d a).toNat:Int) < 18446744073709551616:=by omega
  refine T.loop (fun q:Nat × Nat × Nat × List CD=>⟨[(0,.ptr 0 0 0),(2,.ptr 3 0 0),(3,.int .i64 q.2.2.1),(4,.int .u64 q.1)],[RB 2 k r q.2.2.2.length x y hd mo ti l more,rdr d q.2.1 0,.seq .cell q.2.2.2,.box [.int .i64 k,.int .i64 r,.vec .cell L,.int .i64 x,.int .i64 y,.bool hd,.int .u8 mo,.str ti,.vec .str l]]⟩) (fun q=>Few q.1∧RdOk d q.2.1∧q.2.2.1≤r∧q.2.2.2.length=L.length∧cpG d k r L q.1 q.2.1 q.2.2.1 q.2.2.2=W) (fun q=>q.1) ((varV d a).toNat,a+varU d a,0,L) ⟨hn1,hr2,Nat.zero_le _,rfl,hWg⟩ (Cos.intro [0,1,2,3] [4] rfl (by simp only [hn0]; (simp only [PB,SB,E,MB,seval,rdB,ne_eq,implies_true,jai,jaI,jaJ,jaf,jag,jb1,jaZ,jbY,tq0,tq1,tq2]; first | done | ((repeat' apply And.intro) <;> first | rfl | omega | (simp; done) | (simp; omega))))) (fun q hq=>?_)
  obtain ⟨n,a',pos,cur⟩:=q
  obtain ⟨hn,hr',hp,hcl,hg⟩:=hq
  dsimp only at hn hr' hp hcl hg
  have hn':(n:Int) < 18446744073709551616:=hn
  have hr3:=hr'
  obtain ⟨g1,g2,g3⟩:=hr'
  have gv:=jaR g3 a'
  have hr4:RdOk d (a'+varU d a'):=⟨jbx g1,g2,g3⟩
  have gv2:=jaR g3 (a'+varU d a')
  have hr5:RdOk d (a'+varU d a'+varU d (a'+varU d a')):=⟨jbx (jbx g1),g2,g3⟩
  cases n with
  | zero =>
   simp only [cpG] at hg
   subst hg
   rw [jci rfl,jcj rfl]
   rw [← hcl]
   repeat' first | simp only [PB,SB,E,MB,seval,rdB,ne_eq,implies_true,jai,jaI,jaJ,jaf,jag,jb1,jaZ,jbY,tq0,tq1,tq2] | simp only [hw] | simp only [hw2] | refine T.seq ?_ | refine T.stm ?_ | refine T.rg ?_ | refine jac ?_ | refine jad ?_ | refine jae ?_ | refine T.cond ?_ | refine T.skip ?_ | refine T.ret ?_ | refine T.exit ?_ | refine T.block ?_ | refine Cos.intro [0,1,2,2] [] rfl ?_ | refine And.intro ?_ ?_ | (intro p0; have hyp:=p0; (try simp only [HB,ne_eq,reduceCtorEq] at hyp); (try simp only [p0]); (try clear p0); try (exfalso; omega; done)) | omega
  | succ n =>
   simp only [cpG] at hg
   by_cases t1:upE d a' ((r:Int) - 1 - pos)=0
   ·have u1:=jcf t1
    rw [if_neg (by simp [t1])] at hg
    have z1:((pos:Int)+varV d a').toNat+1≤r:=by omega
    have q1:=jst (k:=k) z1
    rw [← hl,← hcl] at q1
    by_cases t2:upE d (a'+varU d a') ((r:Int) - 1)=0
    ·have u2:=jcf t2
     rw [if_neg (by simp [t2])] at hg
     have z2:(varV d (a'+varU d a')).toNat+1≤r:=by omega
     have q2:=jst (k:=k) z2
     rw [← hl] at q2
     have q3:((pos:Int)+varV d a').toNat * k+k≤cur.length:=by
      rw [Nat.add_mul,Nat.one_mul] at q1
      exact q1
     have z3:((pos:Int)+varV d a').toNat=pos+(varV d a').toNat:=by omega
     have hrl:(jbm L k (varV d (a'+varU d a')).toNat).length=k:=by
      rw [Nat.add_mul,Nat.one_mul] at q2
      simp only [jbm,List.length_take,List.length_drop]
      omega
     have hput:cur.take (((pos:Int)+varV d a').toNat * k)++(jbm L k (varV d (a'+varU d a')).toNat).take (min (jbm L k (varV d (a'+varU d a')).toNat).length k)++cur.drop (((pos:Int)+varV d a').toNat * k+min (jbm L k (varV d (a'+varU d a')).toNat).length k)=jfW cur ((pos+(varV d a').toNat) * k) (jbm L k (varV d (a'+varU d a')).toNat):=by
      rw [hrl,Nat.min_self,jfW,hrl,z3]
      congr 2
      rw [List.take_of_length_le (by omega)]
     have hpl:(jfW cur ((pos+(varV d a').toNat) * k) (jbm L k (varV d (a'+varU d a')).toNat)).length=cur.length:=jkT (by rw [hrl,← z3]; exact q3)
     have hwr:IntKind.u64.wrap (((n+1:Nat):Int) - 1)=n:=by
      rw [show ((n+1:Nat):Int) - 1=n by omega]
      exact jnf (by omega)
     have hps:(pos:Int)+varV d a'+1=((pos+(varV d a').toNat+1:Nat):Int):=by omega
     have hw2:=And.intro t1 t2
     repeat' first | exact hr3 | exact hr4 | exact q1 | exact q2 | exact q3 | simp only [PB,SB,E,MB,seval,rdB,ne_eq,implies_true,jai,jaI,jaJ,jaf,jag,jb1,jaZ,jbY,tq0,tq1,tq2] | simp only [hw] | simp only [hw2] | apply tA | apply tB | apply tC | apply tD | apply tE | apply tF | apply tG | apply tH | apply tI | apply tJ | apply tK | apply And.intro | (intro p0; have hyp:=p0; (try simp only [HB,ne_eq,reduceCtorEq] at hyp); (try simp only [p0]); (try clear p0); try (exfalso; omega; done)) | omega
     refine ⟨(n,a'+varU d a'+varU d (a'+varU d a'),pos+(varV d a').toNat+1,jfW cur ((pos+(varV d a').toNat) * k) (jbm L k (varV d (a'+varU d a')).toNat)),⟨?_,hr5,?_,hpl.trans hcl,hg⟩,Nat.lt_succ_self _,Cos.intro [0,1,2,3] [] rfl ?_⟩
     ·unfold Few
      dsimp only
      omega
     ·dsimp only
      omega
     ·dsimp only
      rw [hput,hwr,hps,hpl]
      (simp only [PB,SB,E,MB,seval,rdB,ne_eq,implies_true,jai,jaI,jaJ,jaf,jag,jb1,jaZ,jbY,tq0,tq1,tq2]; first | done | ((repeat' apply And.intro) <;> first | rfl | omega | (simp; done) | (simp; omega)))
    ·rw [if_pos t2] at hg
     subst hg
     rw [ja1 t2,ja2 t2]
     have hw2:=And.intro t1 (eq_false t2)
     repeat' first | exact hr3 | exact hr4 | exact q1 | simp only [PB,SB,E,MB,seval,rdB,ne_eq,implies_true,jai,jaI,jaJ,jaf,jag,jb1,jaZ,jbY,tq0,tq1,tq2] | simp only [hw] | simp only [hw2] | refine T.seq ?_ | refine T.stm ?_ | refine T.rg ?_ | refine jac ?_ | refine jad ?_ | refine jae ?_ | refine T.cond ?_ | refine T.skip ?_ | refine T.ret ?_ | refine T.exit ?_ | refine T.block ?_ | refine Cos.err (Cos.intro [0,1,2] [] rfl ?_) | refine And.intro ?_ ?_ | (intro p0; have hyp:=p0; (try simp only [HB,ne_eq,reduceCtorEq] at hyp); (try simp only [p0]); (try clear p0); try (exfalso; omega; done)) | omega
   ·rw [if_pos t1] at hg
    subst hg
    rw [ja1 t1,ja2 t1]
    have hw2:=eq_false t1
    repeat' first | exact hr3 | simp only [PB,SB,E,MB,seval,rdB,ne_eq,implies_true,jai,jaI,jaJ,jaf,jag,jb1,jaZ,jbY,tq0,tq1,tq2] | simp only [hw] | simp only [hw2] | refine T.seq ?_ | refine T.stm ?_ | refine T.rg ?_ | refine jac ?_ | refine jad ?_ | refine jae ?_ | refine T.cond ?_ | refine T.skip ?_ | refine T.ret ?_ | refine T.exit ?_ | refine T.block ?_ | refine Cos.err (Cos.intro [0,1,2] [] rfl ?_) | refine And.intro ?_ ?_ | (intro p0; have hyp:=p0; (try simp only [HB,ne_eq,reduceCtorEq] at hyp); (try simp only [p0]); (try clear p0); try (exfalso; omega; done)) | omega
 ·have hW:cpsG d a k r L=(jfE d a,0,[]):=by rw [cpsG,if_pos e1]
  rw [hW,ja1 e1,ja2 e1]
  have hw:=eq_false e1
  repeat' first | exact hr1 | exact hl6 | simp only [PB,SB,E,MB,seval,rdB,ne_eq,implies_true,jai,jaI,jaJ,jaf,jag,jb1,jaZ,jbY,tq0,tq1,tq2] | simp only [hw] | simp only [hw2] | refine T.seq ?_ | refine T.stm ?_ | refine T.rg ?_ | refine jac ?_ | refine jad ?_ | refine jae ?_ | refine T.cond ?_ | refine T.skip ?_ | refine T.ret ?_ | refine T.exit ?_ | refine T.block ?_ | refine Cos.err (Cos.intro [0,1,2] [] rfl ?_) | refine And.intro ?_ ?_ | (intro p0; have hyp:=p0; (try simp only [HB,ne_eq,reduceCtorEq] at hyp); (try simp only [p0]); (try clear p0); try (exfalso; omega; done)) | omega)
end
end Go.Proofs.YtcfkfgkndncanaaGreatDoor
