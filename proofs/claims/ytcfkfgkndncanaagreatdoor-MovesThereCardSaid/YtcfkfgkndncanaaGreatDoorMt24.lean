/- Texts of this claim, merged by a program of this claim: FGrid2. -/
import Derived.Test.YtcfkfgkndncanaaGreatDoorMt19
import Derived.Test.YtcfkfgkndncanaaGreatDoorMt23
namespace Go.Proofs.YtcfkfgkndncanaaGreatDoor
set_option linter.unusedVariables false
set_option linter.unusedSimpArgs false
section
open Go.RowKit
set_option maxRecDepth 100000
set_option maxHeartbeats 4000000
def selC (c1 c2:Con):Con:=fun ARGS H=>if (jdo ARGS).isEmpty=true then c2 ARGS H else c1 ARGS H
theorem jbY (c1 c2:Con) (ARGS:List CV) (H:KH):selC c1 c2 ARGS H=if (jdo ARGS).isEmpty=true then c2 ARGS H else c1 ARGS H:=rfl
theorem jkX {P:Program} {E:Nat→Option (List CV)} {F:FuncId} {c1 c2:Con} (h1:jgF P E F c1) (h2:jgF P E F c2):jgF P E F (selC c1 c2):=fun ARGS H G r H' hc hG=>by
 unfold selC at hc
 split at hc
 ·exact h2 ARGS H G r H' hc hG
 ·exact h1 ARGS H G r H' hc hG
noncomputable def sp_gown:Spec:=spOf (α:=Int × Int × (List CD) × PD) (fun ⟨k,r,L,p⟩=>[.agg [.int .i64 k,.int .i64 r,.vec .cell L],penV p]) fun ⟨k,r,L,p⟩=>(jbN k r L=true∧penB p=true∧CWs L∧L.length≤1000000,.ret (.tup [.agg [.int .i64 k,.int .i64 r,.vec .cell L],.bool true]))
theorem jbJ (k:Int) (r:Int) (L:List CD) (p:PD):sp_gown [.agg [.int .i64 k,.int .i64 r,.vec .cell L],penV p]=some (jbN k r L=true∧penB p=true∧CWs L∧L.length≤1000000,.ret (.tup [.agg [.int .i64 k,.int .i64 r,.vec .cell L],.bool true])):=jar (α:=Int × Int × (List CD) × PD) _ (fun ⟨k,r,L,p⟩ ⟨k',r',L',p'⟩ h=>by first | simpa [CP] using h | (simp [CP] at h ⊢; grind)) (k,r,L,p)
theorem jv3:Fresh Tryz.prog E0 125 sp_gown:=Fresh.of fun ⟨k,r,L,p⟩ hG=>TF.intro (V:=(VV [(56,conF [.agg [.any,.any,.sl .cell]] sp_gmay),(130,conF [.any] sp_gpen),(24,conT [.sl .cell] sp_clone)] (.cons (jaa jgf) (Fresh.soundF jrL) (.cons (jaa jfg) (Fresh.soundF jvL) (.cons (jaa ja8) (Fresh.soundT jgc) GOk.nil))) 20 0)) jhZ rfl rfl (by
 dsimp only at hG ⊢
 obtain ⟨hw,hw2,hc,hl⟩:=hG
 repeat' first | exact hc | simp only [SB,E,seval,rdB,ne_eq,implies_true,jdZ,jpI,jai] | simp only [hw] | simp only [hw2] | refine T.seq ?_ | refine T.stm ?_ | refine T.rg ?_ | refine jac ?_ | refine jad ?_ | refine jae ?_ | refine T.cond ?_ | refine T.skip ?_ | refine T.ret ?_ | refine T.exit ?_ | refine T.block ?_ | refine Cos.intro [3] [] rfl ?_ | refine And.intro ?_ ?_ | (intro p0; have hyp:=p0; (try simp only [HB,ne_eq,reduceCtorEq] at hyp); (try simp only [p0]); (try clear p0); try (exfalso; omega; done)) | omega)
theorem jmL {L:List CD} {k r t b:Nat} {p:PD} (hL:L.length=k * r):(jcZ (ja4 L k r) t b 0 p).flatten=L:=by
 have e:jcZ (ja4 L k r) t b 0 p=ja4 L k r:=by
  unfold jcZ
  rw [jcY]
  unfold ja4
  refine List.map_congr_left fun y hy=>?_
  have hy:=List.mem_range.1 hy
  have h0:mAt ((List.range r).map (jbm L k)) y=jbm L k y:=jdW hy
  unfold scrG
  split
  ·split
   ·rw [Int.add_zero,Int.toNat_natCast,h0]
   ·omega
  ·exact h0
 rw [e,je0 hL]
noncomputable def sp_gscroll:Spec:=spOf (α:=Int × Int × (List CD) × Int × Int × Int × PD) (fun ⟨k,r,L,t,b,m,p⟩=>[.agg [.int .i64 k,.int .i64 r,.vec .cell L],.int .i64 t,.int .i64 b,.int .i64 m,penV p]) fun ⟨k,r,L,t,b,m,p⟩=>(jbN k r L=true∧penB p=true∧CWs L∧(0≤t∧t≤b∧b < r)∧(-1000000≤m∧m≤1000000),.ret (.agg [.int .i64 k,.int .i64 r,.vec .cell (jcZ (ja4 L k.toNat r.toNat) t.toNat b.toNat m p).flatten]))
theorem jhu (k:Int) (r:Int) (L:List CD) (t:Int) (b:Int) (m:Int) (p:PD):sp_gscroll [.agg [.int .i64 k,.int .i64 r,.vec .cell L],.int .i64 t,.int .i64 b,.int .i64 m,penV p]=some (jbN k r L=true∧penB p=true∧CWs L∧(0≤t∧t≤b∧b < r)∧(-1000000≤m∧m≤1000000),.ret (.agg [.int .i64 k,.int .i64 r,.vec .cell (jcZ (ja4 L k.toNat r.toNat) t.toNat b.toNat m p).flatten])):=jar (α:=Int × Int × (List CD) × Int × Int × Int × PD) _ (fun ⟨k,r,L,t,b,m,p⟩ ⟨k',r',L',t',b',m',p'⟩ h=>by first | simpa [CP] using h | (simp [CP] at h ⊢; grind)) (k,r,L,t,b,m,p)
theorem jpW:Fresh Tryz.prog E0 103 sp_gscroll:=Fresh.of fun ⟨k,r,L,t,b,m,p⟩ hG=>TF.intro (V:=(VV [(125,conT [.agg [.any,.any,.sl .cell],.any] sp_gown),(98,selC (conM msp_growM) (conA [.agg [.any,.any,.sl .cell],.any] sp_grow)),(126,conF [.any] sp_cblank)] (.cons (jaa jhZ) (Fresh.soundT jv3) (.cons (jaa jeW) (jkX (MutF.soundM jtX) (Alias.soundA jrK)) (.cons (jaa jdw) (Fresh.soundF jjz) GOk.nil))) 93 0)) jfk rfl rfl (by
 dsimp only at hG ⊢
 obtain ⟨hg,hp,hc,ht,hm⟩:=hG
 have hg2:=hg
 simp only [jbN,HB,ne_eq,reduceCtorEq] at hg2
 have hf:=jfl.1 hg2.1.1
 obtain ⟨k,rfl⟩:∃ n:Nat,k=n:=⟨k.toNat,by omega⟩
 obtain ⟨r,rfl⟩:∃ n:Nat,r=n:=⟨r.toNat,by omega⟩
 obtain ⟨t,rfl⟩:∃ n:Nat,t=n:=⟨t.toNat,by omega⟩
 obtain ⟨b,rfl⟩:∃ n:Nat,b=n:=⟨b.toNat,by omega⟩
 have hln:L.length=k * r:=by
  have:(L.length:Int)=((k * r:Nat):Int):=by rw [hg2.1.2]; simp
  omega
 have hkr:k * r≤1920:=Nat.mul_le_mul (show k≤80 by omega) (show r≤24 by omega)
 obtain ⟨c,hcd⟩:∃ c,c=max (-((b:Int) - t+1)) (min m ((b:Int) - t+1)):=⟨_,rfl⟩
 have hw:=hcd.symm
 simp only [Int.toNat_natCast]
 rw [← jlR (by omega) hcd]
 have hfl:(jcZ (ja4 L k r) t b c p).flatten.length=L.length:=by
  rw [← jmH (p:=p) hln (by omega) (by omega),jmG hln (by omega) (by omega)]
 repeat' first | exact hc | simp only [SB,E,MB,seval,rdB,ne_eq,implies_true,jbJ,jbr,jbq,jbY,jaw] | simp only [hw] | simp only [hw2] | simp only [hw3] | simp only [hw4] | apply tA | apply tB | apply tC | apply tD | apply tE | apply tF | apply tG | apply tH | apply tI | apply tJ | apply tK | apply And.intro | (intro p0; have hyp:=p0; (try simp only [HB,ne_eq,reduceCtorEq] at hyp); (try simp only [p0]); (try clear p0); try (exfalso; omega; done)) | omega
 ·have:c=0:=by omega
  rw [this,jmL hln]
  exact Cos.intro [3] [] rfl (by (simp only [SB,E,MB,seval,rdB,ne_eq,implies_true,jbJ,jbr,jbq,jbY,jaw]; first | done | ((repeat' apply And.intro) <;> first | rfl | omega | (simp; done) | (simp; omega))))
 refine T.loop (fun y:Nat=>⟨[(1,.int .i64 t),(2,.int .i64 b),(3,.int .i64 c),(5,.ptr 0 0 0),(9,.ptr 1 0 0),(10,.ptr 2 0 0),(11,.ptr 4 0 0),(14,.int .i64 y)],[.box [.int .i64 k,.int .i64 r,.vec .cell L],.box [.int .u32 p.fg,.int .u32 p.bg,.int .u8 p.attrs,.int .u16 p.link],.box [.int .i64 0,.int .i64 0,.nils],.seq .cell (jem L k r t b c p y),.box [.int .i64 k,.int .i64 r,.slice 3 0 6 L.length L.length]]⟩) (fun y=>t≤y∧y≤b+1) (fun y=>b+1 - y) t ⟨by omega,by omega⟩ (Cos.intro [0,1,2,3,4] [] rfl (by rw [jnC (by omega)]; (simp only [SB,E,MB,seval,rdB,ne_eq,implies_true,jbJ,jbr,jbq,jbY,jaw]; first | done | ((repeat' apply And.intro) <;> first | rfl | omega | (simp; done) | (simp; omega))))) (fun y ⟨hty,hyb⟩=>?_)
 have hsl:=jmG (p:=p) (m:=c) (top:=t) hln (show b < r by omega) (show y≤r by omega)
 by_cases hyb2:y≤b
 ·have hrow:(y+1) * k≤L.length:=by
   rw [hln,Nat.mul_comm k r]
   exact Nat.mul_le_mul_right k (by omega)
  have hra:=(jbD hln).at_ (show y < r by omega)
  by_cases hin:(t:Int)≤y+c∧(y:Int)+c≤b
  ·obtain ⟨z,hz⟩:∃ z:Nat,(y:Int)+c=z:=⟨((y:Int)+c).toNat,by omega⟩
   have hsg:jbm L k z=scrG (ja4 L k r) t b c p y:=by
    unfold scrG
    rw [if_pos (by omega),if_pos hin,hz,Int.toNat_natCast,jdW (by omega)]
   have hst:=jkV (m:=c) hln (show b < r by omega) (show y < r by omega) _ hsg
   have hzr:(z+1) * k≤L.length:=by
    rw [hln,Nat.mul_comm k r]
    exact Nat.mul_le_mul_right k (by omega)
   have hzl:=jdA hln (show z < r by omega)
   have hw2:=hz
   have hyk:y * k+k≤L.length:=by rw [← Nat.succ_mul]; exact hrow
   have hw3:List.take (min (jbm L k z).length k) (jbm L k z)=jbm L k z:=List.take_of_length_le (by omega)
   have hw4:min (jbm L k z).length k=k:=by omega
   rw [hzl] at hst
   repeat' first | exact hc | (rw [hsl]; exact hyk) | simp only [SB,E,MB,seval,rdB,ne_eq,implies_true,jbJ,jbr,jbq,jbY,jaw] | simp only [hw] | simp only [hw2] | simp only [hw3] | simp only [hw4] | apply tA | apply tB | apply tC | apply tD | apply tE | apply tF | apply tG | apply tH | apply tI | apply tJ | apply tK | apply And.intro | (intro p0; have hyp:=p0; (try simp only [HB,ne_eq,reduceCtorEq] at hyp); (try simp only [p0]); (try clear p0); try (exfalso; omega; done)) | omega
   exact ⟨y+1,⟨by omega,by omega⟩,by omega,Cos.intro [0,1,2,3,4] [] rfl (by rw [hst]; (simp only [SB,E,MB,seval,rdB,ne_eq,implies_true,jbJ,jbr,jbq,jbY,jaw]; first | done | ((repeat' apply And.intro) <;> first | rfl | omega | (simp; done) | (simp; omega))))⟩
  ·have hyk:y * k+k≤L.length:=by rw [← Nat.succ_mul]; exact hrow
   have hsg:List.replicate k (jgv p)=scrG (ja4 L k r) t b c p y:=by
    unfold scrG
    rw [if_pos (by omega),if_neg hin,hra.1]
   have hst:=jkV (m:=c) hln (show b < r by omega) (show y < r by omega) _ hsg
   rw [List.length_replicate] at hst
   repeat' first | exact hc | (rw [hsl]; exact hyk) | simp only [SB,E,MB,seval,rdB,ne_eq,implies_true,jbJ,jbr,jbq,jbY,jaw] | simp only [hw] | simp only [hw2] | simp only [hw3] | simp only [hw4] | apply tA | apply tB | apply tC | apply tD | apply tE | apply tF | apply tG | apply tH | apply tI | apply tJ | apply tK | apply And.intro | (intro p0; have hyp:=p0; (try simp only [HB,ne_eq,reduceCtorEq] at hyp); (try simp only [p0]); (try clear p0); try (exfalso; omega; done)) | omega
   refine T.loop (fun x:Nat=>⟨[(1,.int .i64 t),(2,.int .i64 b),(3,.int .i64 c),(5,.ptr 0 0 0),(9,.ptr 1 0 0),(10,.ptr 2 0 0),(11,.ptr 4 0 0),(14,.int .i64 y),(15,.slice 3 (y * k) 6 k k),(82,.int .i64 k),(83,.int .i64 x)],[.box [.int .i64 k,.int .i64 r,.vec .cell L],.box [.int .u32 p.fg,.int .u32 p.bg,.int .u8 p.attrs,.int .u16 p.link],.box [.int .i64 0,.int .i64 0,.nils],.seq .cell (jlS (jem L k r t b c p y) y k (jgv p) x),.box [.int .i64 k,.int .i64 r,.slice 3 0 6 L.length L.length]]⟩) (fun x=>x≤k) (fun x=>k - x) 0 (by omega) (Cos.intro [0,1,2,3,4] [] rfl (by rw [jpT]; (simp only [SB,E,MB,seval,rdB,ne_eq,implies_true,jbJ,jbr,jbq,jbY,jaw]; first | done | ((repeat' apply And.intro) <;> first | rfl | omega | (simp; done) | (simp; omega))))) (fun x hx=>?_)
   by_cases hxk:x < k
   ·have hput:=jrV (S:=jem L k r t b c p y) (b:=jgv p) (show y * k+x < (jem L k r t b c p y).length by omega)
    have hrl:=jrU (S:=jem L k r t b c p y) (y:=y) (k:=k) (b:=jgv p) (x:=x) (by omega)
    have hw3:({ fg:=p.fg,bg:=p.bg,attrs:=p.attrs,link:=p.link }:PD)=p:=rfl
    repeat' first | exact hc | (rw [hsl]; exact hyk) | (rw [hrl,hsl]; omega) | simp only [SB,E,MB,seval,rdB,ne_eq,implies_true,jbJ,jbr,jbq,jbY,jaw] | simp only [hw] | simp only [hw2] | simp only [hw3] | simp only [hw4] | apply tA | apply tB | apply tC | apply tD | apply tE | apply tF | apply tG | apply tH | apply tI | apply tJ | apply tK | apply And.intro | (intro p0; have hyp:=p0; (try simp only [HB,ne_eq,reduceCtorEq] at hyp); (try simp only [p0]); (try clear p0); try (exfalso; omega; done)) | omega
    exact ⟨x+1,by omega,by omega,Cos.intro [0,1,2,3,4] [] rfl (by rw [hput]; (simp only [SB,E,MB,seval,rdB,ne_eq,implies_true,jbJ,jbr,jbq,jbY,jaw]; first | done | ((repeat' apply And.intro) <;> first | rfl | omega | (simp; done) | (simp; omega))))⟩
   ·obtain rfl:x=k:=by omega
    have hrt:jlS (jem L x r t b c p y) y x (jgv p) x=jem L x r t b c p (y+1):=hst
    repeat' first | exact hc | simp only [SB,E,MB,seval,rdB,ne_eq,implies_true,jbJ,jbr,jbq,jbY,jaw] | simp only [hw] | simp only [hw2] | simp only [hw3] | simp only [hw4] | apply tA | apply tB | apply tC | apply tD | apply tE | apply tF | apply tG | apply tH | apply tI | apply tJ | apply tK | apply And.intro | (intro p0; have hyp:=p0; (try simp only [HB,ne_eq,reduceCtorEq] at hyp); (try simp only [p0]); (try clear p0); try (exfalso; omega; done)) | omega
    exact ⟨y+1,⟨by omega,by omega⟩,by omega,Cos.intro [0,1,2,3,4] [] rfl (by rw [hrt]; (simp only [SB,E,MB,seval,rdB,ne_eq,implies_true,jbJ,jbr,jbq,jbY,jaw]; first | done | ((repeat' apply And.intro) <;> first | rfl | omega | (simp; done) | (simp; omega))))⟩
 ·obtain rfl:y=b+1:=by omega
  rw [jmH hln (by omega) (by omega)]
  repeat' first | exact hc | simp only [SB,E,MB,seval,rdB,ne_eq,implies_true,jbJ,jbr,jbq,jbY,jaw] | simp only [hw] | simp only [hw2] | simp only [hw3] | simp only [hw4] | refine T.seq ?_ | refine T.stm ?_ | refine T.rg ?_ | refine jac ?_ | refine jad ?_ | refine jae ?_ | refine T.cond ?_ | refine T.skip ?_ | refine T.ret ?_ | refine T.exit ?_ | refine T.block ?_ | refine Cos.intro [3] [] rfl ?_ | refine And.intro ?_ ?_ | (intro p0; have hyp:=p0; (try simp only [HB,ne_eq,reduceCtorEq] at hyp); (try simp only [p0]); (try clear p0); try (exfalso; omega; done)) | omega)
end
end Go.Proofs.YtcfkfgkndncanaaGreatDoor
