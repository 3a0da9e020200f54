/- Texts of this claim, merged by a program of this claim: FRapply3. -/
import Derived.Test.YtcfkfgkndncanaaGreatDoorMa46
namespace Go.Proofs.YtcfkfgkndncanaaGreatDoor
set_option linter.unusedVariables false
set_option linter.unusedSimpArgs false
section
open Go.RowKit
set_option maxRecDepth 100000
set_option maxHeartbeats 8000000
theorem jhG {d:List Int}{k nl n a pos:Nat}{L:List CD}{e:Int}(h:hdG d a pos L.length nl=jc3 e) (he:¬e=0):rnX d k nl (n+1) a pos L=(hdX d a pos L.length nl,L):=by
 simp only[rnX,h,jc3,ne_eq,he,not_false_eq_true,if_true]
theorem jA3 {d:List Int}{k nl n a pos a6 p1 N:Nat}{p:PD}{L:List CD}{U:Int×Nat×Nat×List CD}(h:hdG d a pos L.length nl=⟨0,a6,p1,N,p⟩) (hU:letG d k p N a6 p1 L=U):rnX d k nl (n+1) a pos L=if U.1≠0 then letX d k p N a6 p1 L else rnX d k nl n U.2.1 U.2.2.1 U.2.2.2:=by
 simp only[rnX,h,hU,ne_eq,not_true_eq_false,if_false]
theorem jfV {d:List Int}{a:Nat}(h:colE d a=0):upE d a 4294967295=0∧jg3 (varV d a)=true:=by
 rcases jfm d a with q|q|q
 ·exact⟨q.1,q.2.1⟩
 ·rw[q.2.2]at h
  cases h
 ·exact absurd (q.2.symm.trans h) q.1
abbrev joK (k:Int) (r:Int) (L:List CD) (x:Int) (y:Int) (hd:Bool) (mo:Int) (ti:ByteArray) (l:List ByteArray) (more:List ByteArray) (d:List Int) (a:Nat) (most:Int):List CV:=[.agg [.vec (.int .u8) d,.int .i64 (a:Int),.int .i64 0,.int .i64 k,.int .i64 r,.slice 0 0 6 L.length L.length,.int .i64 x,.int .i64 y,.bool hd,.int .u8 mo,.str ti,.vec .str l,.vec .str more],.int .i64 most]
abbrev joL (k:Int) (r:Int) (L:List CD) (x:Int) (y:Int) (hd:Bool) (mo:Int) (ti:ByteArray) (l:List ByteArray) (more:List ByteArray) (d:List Int) (a:Nat) (most:Int):KH:=[.seq .cell L]
abbrev joM (k:Int) (r:Int) (L:List CD) (x:Int) (y:Int) (hd:Bool) (mo:Int) (ti:ByteArray) (l:List ByteArray) (more:List ByteArray) (d:List Int) (a:Nat) (most:Int):Prop×Res×KH:=(RdOk d a∧(-1000000000000≤most∧most≤1000000000000),.ret (.tup [.int .i64 (if upE d a most=0 then varV d a else 0),.agg [.vec (.int .u8) d,.int .i64 (a+varU d a:Nat),.int .i64 (varE d a),.int .i64 k,.int .i64 r,.slice 0 0 6 L.length L.length,.int .i64 x,.int .i64 y,.bool hd,.int .u8 mo,.str ti,.vec .str l,.vec .str more],.int .i64 (upE d a most)]),[.seq .cell L])
noncomputable def msp_r8numM:MSpec:=jcH (α:=Int×Int×(List CD)×Int×Int×Bool×Int×ByteArray×(List ByteArray)×(List ByteArray)×(List Int)×Nat×Int) (fun⟨k,r,L,x,y,hd,mo,ti,l,more,d,a,most⟩=>(joK k r L x y hd mo ti l more d a most,joL k r L x y hd mo ti l more d a most)) fun⟨k,r,L,x,y,hd,mo,ti,l,more,d,a,most⟩=>joM k r L x y hd mo ti l more d a most
theorem jak (k:Int) (r:Int) (L:List CD) (x:Int) (y:Int) (hd:Bool) (mo:Int) (ti:ByteArray) (l:List ByteArray) (more:List ByteArray) (d:List Int) (a:Nat) (most:Int):msp_r8numM (joK k r L x y hd mo ti l more d a most) (joL k r L x y hd mo ti l more d a most)=some (joM k r L x y hd mo ti l more d a most):=jbn _ injM (k,r,L,x,y,hd,mo,ti,l,more,d,a,most)
theorem jwX:MutF Tryz.prog E0 34 msp_r8numM:=MutF.of fun⟨k,r,L,x,y,hd,mo,ti,l,more,d,a,most⟩ hG=>TF.intro (V:=(VV [(68,conA [.agg [.sl (.int .u8),.any,.any]] sp_rrvar)] (.cons (jaa jb8) (Alias.soundA jii) GOk.nil) 35 1)) jb6 rfl rfl (by
 dsimp only[joK,joL,joM]at hG ⊢
 obtain⟨hr1,hm⟩:=hG
 have h3:=hr1.2.2
 have v:=jar h3 a
 by_cases t:upE d a most=0
 ·have u:=jbe t
  rw[if_pos t]
  have hw:=And.intro u.1 (And.intro (jmb (n:=most) (by omega)) (And.intro t (jf0 (n:=varV d a) (by omega))))
  repeat' first|exact h3 _ ‹_›|exact hr1.1|exact hr1.2.1|simp only[SA,MB,seval,rdB,jaP,tq0,tq1,tq2]|simp only[hw]|refine tT ?_|refine Cos.intro [0] [] rfl ?_|refine And.intro ?_ ?_|exact tC|(refine tI ?_;intro hyp)|intro hyp0|omega
 ·rw[if_neg t]
  by_cases t1:varE d a=0
  ·have hU:upE d a most=3:=by
    unfold upE at t ⊢
    rw[if_neg (by simp[t1])]at t ⊢
    split at t
    ·rename_i q
     rw[if_pos q]
    ·exact absurd rfl t
   rw[hU]
   by_cases t2:most<0
   ·have hw:=And.intro t1 (eq_true t2)
    repeat' first|exact h3 _ ‹_›|exact hr1.1|exact hr1.2.1|simp only[SA,MB,seval,rdB,jaP,tq0,tq1,tq2]|simp only[hw]|refine tT ?_|refine Cos.intro [0] [] rfl ?_|refine And.intro ?_ ?_|exact tC|(refine tI ?_;intro hyp)|intro hyp0|omega
   ·have t3:most<varV d a:=by
     unfold upE at t
     rw[if_neg (by simp[t1])]at t
     by_cases q:most<0∨most<varV d a
     ·omega
     ·rw[if_neg q]at t
      exact absurd rfl t
    have hw:=And.intro t1 (And.intro (eq_false t2) (jmb (n:=most) (by omega)))
    repeat' first|exact h3 _ ‹_›|exact hr1.1|exact hr1.2.1|simp only[SA,MB,seval,rdB,jaP,tq0,tq1,tq2]|simp only[hw]|refine tT ?_|refine Cos.intro [0] [] rfl ?_|refine And.intro ?_ ?_|exact tC|(refine tI ?_;intro hyp)|intro hyp0|omega
  ·have hU:upE d a most=varE d a:=if_pos t1
   rw[hU]
   have hw:=eq_false t1
   repeat' first|exact h3 _ ‹_›|exact hr1.1|exact hr1.2.1|simp only[SA,MB,seval,rdB,jaP,tq0,tq1,tq2]|simp only[hw]|refine tT ?_|refine Cos.intro [0] [] rfl ?_|refine And.intro ?_ ?_|exact tC|(refine tI ?_;intro hyp)|intro hyp0|omega)
abbrev jdT (k:Int) (r:Int) (L:List CD) (x:Int) (y:Int) (hd:Bool) (mo:Int) (ti:ByteArray) (l:List ByteArray) (more:List ByteArray) (d:List Int) (a:Nat):List CV:=[.agg [.vec (.int .u8) d,.int .i64 (a:Int),.int .i64 0,.int .i64 k,.int .i64 r,.vec .cell L,.int .i64 x,.int .i64 y,.bool hd,.int .u8 mo,.str ti,.vec .str l,.vec .str more]]
abbrev jl2 (k:Int) (r:Int) (L:List CD) (x:Int) (y:Int) (hd:Bool) (mo:Int) (ti:ByteArray) (l:List ByteArray) (more:List ByteArray) (d:List Int) (a:Nat):Prop×Res:=(RdOk d a∧Szd k r L∧more.length≤16,.ret (.tup [.agg [.vec (.int .u8) d,.int .i64 (rnsG d a k.toNat more.length L).2.1,.int .i64 0,.int .i64 k,.int .i64 r,.vec .cell (rnsG d a k.toNat more.length L).2.2,.int .i64 x,.int .i64 y,.bool hd,.int .u8 mo,.str ti,.vec .str l,.vec .str more],.int .i64 0]))
abbrev jl3 (k:Int) (r:Int) (L:List CD) (x:Int) (y:Int) (hd:Bool) (mo:Int) (ti:ByteArray) (l:List ByteArray) (more:List ByteArray) (d:List Int) (a:Nat):Prop×Res:=(RdOk d a∧Szd k r L∧more.length≤16,.ret (.tup [.agg [.vec (.int .u8) d,.int .i64 (rnsX d a k.toNat more.length L).1.a,.int .i64 (rnsX d a k.toNat more.length L).1.e,.int .i64 k,.int .i64 r,.vec .cell (rnsX d a k.toNat more.length L).2,.int .i64 x,.int .i64 y,.bool hd,.int .u8 mo,.str ti,.vec .str l,.vec .str more],.int .i64 (rnsG d a k.toNat more.length L).1]))
noncomputable def jjC:Spec:=spOf (α:=Int×Int×(List CD)×Int×Int×Bool×Int×ByteArray×(List ByteArray)×(List ByteArray)×(List Int)×Nat) (fun⟨k,r,L,x,y,hd,mo,ti,l,more,d,a⟩=>jdT k r L x y hd mo ti l more d a) fun⟨k,r,L,x,y,hd,mo,ti,l,more,d,a⟩=>jl2 k r L x y hd mo ti l more d a
noncomputable def jjD:Spec:=spOf (α:=Int×Int×(List CD)×Int×Int×Bool×Int×ByteArray×(List ByteArray)×(List ByteArray)×(List Int)×Nat) (fun⟨k,r,L,x,y,hd,mo,ti,l,more,d,a⟩=>jdT k r L x y hd mo ti l more d a) fun⟨k,r,L,x,y,hd,mo,ti,l,more,d,a⟩=>jl3 k r L x y hd mo ti l more d a
noncomputable def esp_r8rruns:QSpec:=jng (α:=Int×Int×(List CD)×Int×Int×Bool×Int×ByteArray×(List ByteArray)×(List ByteArray)×(List Int)×Nat) (fun⟨k,r,L,x,y,hd,mo,ti,l,more,d,a⟩=>jdT k r L x y hd mo ti l more d a) fun⟨k,r,L,x,y,hd,mo,ti,l,more,d,a⟩=>(rnsG d a k.toNat more.length L).1
theorem jfW:InjS (α:=Int×Int×(List CD)×Int×Int×Bool×Int×ByteArray×(List ByteArray)×(List ByteArray)×(List Int)×Nat) (fun⟨k,r,L,x,y,hd,mo,ti,l,more,d,a⟩=>jdT k r L x y hd mo ti l more d a):=injS
theorem jaU (k:Int) (r:Int) (L:List CD) (x:Int) (y:Int) (hd:Bool) (mo:Int) (ti:ByteArray) (l:List ByteArray) (more:List ByteArray) (d:List Int) (a:Nat):jjC (jdT k r L x y hd mo ti l more d a)=some (jl2 k r L x y hd mo ti l more d a):=jaq _ jfW (k,r,L,x,y,hd,mo,ti,l,more,d,a)
theorem jaV (k:Int) (r:Int) (L:List CD) (x:Int) (y:Int) (hd:Bool) (mo:Int) (ti:ByteArray) (l:List ByteArray) (more:List ByteArray) (d:List Int) (a:Nat):jjD (jdT k r L x y hd mo ti l more d a)=some (jl3 k r L x y hd mo ti l more d a):=jaq _ jfW (k,r,L,x,y,hd,mo,ti,l,more,d,a)
theorem jaG (k:Int) (r:Int) (L:List CD) (x:Int) (y:Int) (hd:Bool) (mo:Int) (ti:ByteArray) (l:List ByteArray) (more:List ByteArray) (d:List Int) (a:Nat):esp_r8rruns (jdT k r L x y hd mo ti l more d a)=(rnsG d a k.toNat more.length L).1:=jeK _ jfW (k,r,L,x,y,hd,mo,ti,l,more,d,a)
theorem jtJ:AliasQ Tryz.prog E0 39 jjC jjD esp_r8rruns:=AliasQ.of jfW (fun _=>rfl) fun⟨k,r,L,x,y,hd,mo,ti,l,more,d,a⟩ hG=>TF.intro (V:=(VV [(73,conQ [.agg [.sl (.int .u8),.any,.any,.any,.any,.sl .cell,.any,.any,.any,.any,.any,.sl .str,.sl .str]] jgU jgV esp_r8count),(72,conT [.sl .cell] sp_rcopy),(34,conM msp_r8numM),(74,conF [.any] sp_rcolor),(46,conF [.any] sp_r7width)] (.cons (jaa jdD) (AliasQ.soundQ jmQ) (.cons (jaa jee) (Fresh.soundT jh0) (.cons (jaa jb6) (MutF.soundM jwX) (.cons (jaa je1) (Fresh.soundF jpq) (.cons (jaa jfE) (Fresh.soundF jiG) GOk.nil))))) 182 0)) jfY rfl rfl (by
 dsimp only[jdT,jl2,jl3]at hG ⊢
 obtain⟨hr1,hz,hmo⟩:=hG
 have h3:=hr1.2.2
 have hle:=hz.le
 obtain⟨hk,hr,hL⟩:=hz
 obtain⟨k,rfl⟩:∃n:Nat,k=n:=⟨k.toNat,by omega⟩
 obtain⟨r,rfl⟩:∃n:Nat,r=n:=⟨r.toNat,by omega⟩
 simp only[Int.toNat_natCast]at hL ⊢
 have hl6:L.length≤1000000:=by omega
 obtain⟨a1,b1⟩:∃a1,a+varU d a=a1:=⟨_,rfl⟩
 have hr2:=jdQ hr1 b1
 have v1:=jar h3 a
 by_cases e1:jdr d a=0
 case neg =>
  have hW:rnsG d a k more.length L=(jdr d a,0,[]):=by rw[rnsG,if_pos e1]
  have hX:rnsX d a k more.length L=(⟨a1,varE d a⟩,L):=by rw[rnsX,if_pos e1,nmX,b1]
  rw[hW,hX,jbI e1]
  have hw:=And.intro b1 (eq_false e1)
  repeat' first|exact hr1|simp only[PB,SA,MB,seval,rdB,jae,jaf,jac,jab,jak,jao,jai,tq0,tq1,tq2]|simp only[hw]|simp only[hw2]|simp only[hw3]|refine tT ?_|refine Cos.intro [] [0,1,2,3,4,5,6,7,8,9] rfl ?_|refine And.intro ?_ ?_|exact tC|(refine tI ?_;intro hyp)|intro hyp0|omega
 have hW:rnsG d a k more.length L=rnG d k more.length (varV d a).toNat a1 0 L:=by simp only[rnsG,b1,e1,ne_eq,not_true_eq_false,not_false_eq_true,if_true,if_false]
 have hX:rnsX d a k more.length L=rnX d k more.length (varV d a).toNat a1 0 L:=by simp only[rnsX,b1,e1,ne_eq,not_true_eq_false,not_false_eq_true,if_true,if_false]
 rw[hW,hX]
 have hn1:((varV d a).toNat:Int)<18446744073709551616:=by omega
 have hN:((varV d a).toNat:Int)=varV d a:=by omega
 generalize (varV d a).toNat=N at hn1 hN ⊢
 generalize hWg:rnG d k more.length N a1 0 L=W
 generalize hXg:rnX d k more.length N a1 0 L=Y
 have hw:=And.intro b1 e1
 repeat' first|exact hr1|exact hl6|simp only[PB,SA,MB,seval,rdB,jae,jaf,jac,jab,jak,jao,jai,tq0,tq1,tq2]|simp only[hw]|simp only[hw2]|simp only[hw3]|refine tT ?_|refine And.intro ?_ ?_|exact tC|(refine tI ?_;intro hyp)|intro hyp0|omega
 refine T.loop (fun q:Nat×Nat×Nat×List CD=>⟨[(1,.ptr 0 0 0),(2,.ptr 1 0 0),(4,.int .u64 N),(6,.int .i64 q.2.2.1),(7,.int .i64 q.2.2.2.length),(8,.int .u64 q.1)],[.box [.vec (.int .u8) d,.int .i64 q.2.1,.int .i64 0,.int .i64 k,.int .i64 r,.slice 2 0 6 q.2.2.2.length q.2.2.2.length,.int .i64 x,.int .i64 y,.bool hd,.int .u8 mo,.str ti,.vec .str l,.vec .str more],.box [.nils,.int .i64 0,.int .i64 0,.int .i64 0,.int .i64 0,.nils,.int .i64 0,.int .i64 0,.bool false,.int .u8 0,.str (bs []),.nils,.nils],.seq .cell q.2.2.2]⟩) (fun q=>q.1≤N∧RdOk d q.2.1∧q.2.2.1≤q.2.2.2.length∧q.2.2.2.length=L.length∧rnG d k more.length (N-q.1) q.2.1 q.2.2.1 q.2.2.2=W∧rnX d k more.length (N-q.1) q.2.1 q.2.2.1 q.2.2.2=Y) (fun q=>N-q.1) (0,a1,0,L) ⟨Nat.zero_le _,hr2,Nat.zero_le _,rfl,hWg,hXg⟩ (Cos.intro [0,1,2] [] rfl (by simp only[hN];(simp only[PB,SA,MB,seval,rdB,jae,jaf,jac,jab,jak,jao,jai,tq0,tq1,tq2]<;>exact tE))) (fun q hq=>?_)
 obtain⟨i,a0,pos,cur⟩:=q
 obtain⟨hi,hra,hp,hcl,hg,hx⟩:=hq
 dsimp only at hi hra hp hcl hg hx
 clear hw b1 hr2 hWg hXg
 by_cases hin:i<N
 case neg =>
  rw[show N-i=0 by omega]at hg hx
  simp only[rnG]at hg
  subst hg
  rw[jeZ rfl]
  have hw:=eq_false hin
  repeat' first|simp only[PB,SA,MB,seval,rdB,jae,jaf,jac,jab,jak,jao,jai,tq0,tq1,tq2]|simp only[hw]|simp only[hw2]|simp only[hw3]|refine tT ?_|refine Cos.intro [] [0,1,2,3,4,5,6,7,8,9] rfl ?_|refine And.intro ?_ ?_|exact tC|(refine tI ?_;intro hyp)|intro hyp0|omega
 obtain⟨n',hn'⟩:∃n',N-i=n'+1:=⟨N-i-1,by omega⟩
 rw[hn']at hg hx
 obtain⟨a1,b1⟩:∃a1,a0+varU d a0=a1:=⟨_,rfl⟩
 obtain⟨a2,b2⟩:∃a2,a1+varU d a1=a2:=⟨_,rfl⟩
 obtain⟨a3,b3⟩:∃a3,a2+varU d a2=a3:=⟨_,rfl⟩
 obtain⟨a4,b4⟩:∃a4,a3+varU d a3=a4:=⟨_,rfl⟩
 obtain⟨a5,b5⟩:∃a5,a4+varU d a4=a5:=⟨_,rfl⟩
 obtain⟨a6,b6⟩:∃a6,a5+varU d a5=a6:=⟨_,rfl⟩
 have hr1:=jdQ hra b1
 have hr2:=jdQ hr1 b2
 have hr3:=jdQ hr2 b3
 have hr4:=jdQ hr3 b4
 have hr5:=jdQ hr4 b5
 have hr6:=jdQ hr5 b6
 have v0:=jar h3 a0
 have v1:=jar h3 a1
 have v2:=jar h3 a2
 have v3:=jar h3 a3
 have v4:=jar h3 a4
 have v5:=jar h3 a5
 have hp1:((pos+(varV d a0).toNat:Nat):Int)=pos+varV d a0:=by omega
 repeat' first|simp only[PB,SA,MB,seval,rdB,jae,jaf,jac,jab,jak,jao,jai,tq0,tq1,tq2]|simp only[hw]|simp only[hw2]|simp only[hw3]|refine tT ?_|refine And.intro ?_ ?_|exact tC|(refine tI ?_;intro hyp)|intro hyp0|omega
 obtain⟨C,hC⟩:∃C:Nat→Prop,∀n,C n↔(n≤6∧(1≤n→upE d a0 ((cur.length:Int)-pos)=0)∧(2≤n→upE d a1 ((cur.length:Int)-(pos+varV d a0))=0∧¬varV d a1=0)∧(3≤n→colE d a2=0)∧(4≤n→colE d a3=0)∧(5≤n→upE d a4 255=0)∧(6≤n→upE d a5 more.length=0)):=⟨_,fun _=>Iff.rfl⟩
 refine T.loop (fun n:Nat=>match n with|0=>⟨[(1,.ptr 0 0 0),(2,.ptr 1 0 0),(4,.int .u64 N),(6,.int .i64 pos),(7,.int .i64 cur.length),(8,.int .u64 i),(9,.ptr 3 0 0),(10,.int .i64 0)],[.box [.vec (.int .u8) d,.int .i64 (a0:Int),.int .i64 0,.int .i64 k,.int .i64 r,.slice 2 0 6 cur.length cur.length,.int .i64 x,.int .i64 y,.bool hd,.int .u8 mo,.str ti,.vec .str l,.vec .str more],.box [.nils,.int .i64 0,.int .i64 0,.int .i64 0,.int .i64 0,.nils,.int .i64 0,.int .i64 0,.bool false,.int .u8 0,.str (bs []),.nils,.nils],.seq .cell cur,.box [.int .i64 0,.int .i64 0,.int .i64 0,.int .i64 0,.int .i64 0,.int .i64 0]]⟩|1=>⟨[(1,.ptr 0 0 0),(2,.ptr 1 0 0),(4,.int .u64 N),(6,.int .i64 ((pos:Int)+varV d a0)),(7,.int .i64 cur.length),(8,.int .u64 i),(9,.ptr 3 0 0),(10,.int .i64 1)],[.box [.vec (.int .u8) d,.int .i64 (a1:Int),.int .i64 0,.int .i64 k,.int .i64 r,.slice 2 0 6 cur.length cur.length,.int .i64 x,.int .i64 y,.bool hd,.int .u8 mo,.str ti,.vec .str l,.vec .str more],.box [.nils,.int .i64 0,.int .i64 0,.int .i64 0,.int .i64 0,.nils,.int .i64 0,.int .i64 0,.bool false,.int .u8 0,.str (bs []),.nils,.nils],.seq .cell cur,.box [.int .i64 (varV d a0),.int .i64 0,.int .i64 0,.int .i64 0,.int .i64 0,.int .i64 0]]⟩|2=>⟨[(1,.ptr 0 0 0),(2,.ptr 1 0 0),(4,.int .u64 N),(6,.int .i64 ((pos:Int)+varV d a0)),(7,.int .i64 cur.length),(8,.int .u64 i),(9,.ptr 3 0 0),(10,.int .i64 2)],[.box [.vec (.int .u8) d,.int .i64 (a2:Int),.int .i64 0,.int .i64 k,.int .i64 r,.slice 2 0 6 cur.length cur.length,.int .i64 x,.int .i64 y,.bool hd,.int .u8 mo,.str ti,.vec .str l,.vec .str more],.box [.nils,.int .i64 0,.int .i64 0,.int .i64 0,.int .i64 0,.nils,.int .i64 0,.int .i64 0,.bool false,.int .u8 0,.str (bs []),.nils,.nils],.seq .cell cur,.box [.int .i64 (varV d a0),.int .i64 (varV d a1),.int .i64 0,.int .i64 0,.int .i64 0,.int .i64 0]]⟩|3=>⟨[(1,.ptr 0 0 0),(2,.ptr 1 0 0),(4,.int .u64 N),(6,.int .i64 ((pos:Int)+varV d a0)),(7,.int .i64 cur.length),(8,.int .u64 i),(9,.ptr 3 0 0),(10,.int .i64 3)],[.box [.vec (.int .u8) d,.int .i64 (a3:Int),.int .i64 0,.int .i64 k,.int .i64 r,.slice 2 0 6 cur.length cur.length,.int .i64 x,.int .i64 y,.bool hd,.int .u8 mo,.str ti,.vec .str l,.vec .str more],.box [.nils,.int .i64 0,.int .i64 0,.int .i64 0,.int .i64 0,.nils,.int .i64 0,.int .i64 0,.bool false,.int .u8 0,.str (bs []),.nils,.nils],.seq .cell cur,.box [.int .i64 (varV d a0),.int .i64 (varV d a1),.int .i64 (varV d a2),.int .i64 0,.int .i64 0,.int .i64 0]]⟩|4=>⟨[(1,.ptr 0 0 0),(2,.ptr 1 0 0),(4,.int .u64 N),(6,.int .i64 ((pos:Int)+varV d a0)),(7,.int .i64 cur.length),(8,.int .u64 i),(9,.ptr 3 0 0),(10,.int .i64 4)],[.box [.vec (.int .u8) d,.int .i64 (a4:Int),.int .i64 0,.int .i64 k,.int .i64 r,.slice 2 0 6 cur.length cur.length,.int .i64 x,.int .i64 y,.bool hd,.int .u8 mo,.str ti,.vec .str l,.vec .str more],.box [.nils,.int .i64 0,.int .i64 0,.int .i64 0,.int .i64 0,.nils,.int .i64 0,.int .i64 0,.bool false,.int .u8 0,.str (bs []),.nils,.nils],.seq .cell cur,.box [.int .i64 (varV d a0),.int .i64 (varV d a1),.int .i64 (varV d a2),.int .i64 (varV d a3),.int .i64 0,.int .i64 0]]⟩|5=>⟨[(1,.ptr 0 0 0),(2,.ptr 1 0 0),(4,.int .u64 N),(6,.int .i64 ((pos:Int)+varV d a0)),(7,.int .i64 cur.length),(8,.int .u64 i),(9,.ptr 3 0 0),(10,.int .i64 5)],[.box [.vec (.int .u8) d,.int .i64 (a5:Int),.int .i64 0,.int .i64 k,.int .i64 r,.slice 2 0 6 cur.length cur.length,.int .i64 x,.int .i64 y,.bool hd,.int .u8 mo,.str ti,.vec .str l,.vec .str more],.box [.nils,.int .i64 0,.int .i64 0,.int .i64 0,.int .i64 0,.nils,.int .i64 0,.int .i64 0,.bool false,.int .u8 0,.str (bs []),.nils,.nils],.seq .cell cur,.box [.int .i64 (varV d a0),.int .i64 (varV d a1),.int .i64 (varV d a2),.int .i64 (varV d a3),.int .i64 (varV d a4),.int .i64 0]]⟩|_=>⟨[(1,.ptr 0 0 0),(2,.ptr 1 0 0),(4,.int .u64 N),(6,.int .i64 ((pos:Int)+varV d a0)),(7,.int .i64 cur.length),(8,.int .u64 i),(9,.ptr 3 0 0),(10,.int .i64 6)],[.box [.vec (.int .u8) d,.int .i64 (a6:Int),.int .i64 0,.int .i64 k,.int .i64 r,.slice 2 0 6 cur.length cur.length,.int .i64 x,.int .i64 y,.bool hd,.int .u8 mo,.str ti,.vec .str l,.vec .str more],.box [.nils,.int .i64 0,.int .i64 0,.int .i64 0,.int .i64 0,.nils,.int .i64 0,.int .i64 0,.bool false,.int .u8 0,.str (bs []),.nils,.nils],.seq .cell cur,.box [.int .i64 (varV d a0),.int .i64 (varV d a1),.int .i64 (varV d a2),.int .i64 (varV d a3),.int .i64 (varV d a4),.int .i64 (varV d a5)]]⟩) C (fun n=>6-n) 0 ((hC 0).2 ⟨by omega,fun q=>absurd q (by decide),fun q=>absurd q (by decide),fun q=>absurd q (by decide),fun q=>absurd q (by decide),fun q=>absurd q (by decide),fun q=>absurd q (by decide)⟩) (Cos.intro [0,1,2,3] [] rfl (by (simp only[PB,SA,MB,seval,rdB,jae,jaf,jac,jab,jak,jao,jai,tq0,tq1,tq2]<;>exact tE))) (fun n hn=>?_)
 obtain⟨hn6,c1,c2,c3,c4,c5,c6⟩:=(hC n).1 hn
 obtain rfl|rfl|rfl|rfl|rfl|rfl|rfl:n=0∨n=1∨n=2∨n=3∨n=4∨n=5∨n=6:=by omega
 ·try dsimp only
  by_cases t1:upE d a0 ((cur.length:Int)-pos)=0
  case neg =>
   have hH:hdG d a0 pos cur.length more.length=jc3 (upE d a0 ((cur.length:Int)-pos)):=by simp only[hdG,t1,hp1,b1,b2,b3,b4,b5,b6,ne_eq,not_true_eq_false,not_false_eq_true,if_true,if_false]
   have hY:hdX d a0 pos cur.length more.length=⟨a1,varE d a0⟩:=by simp only[hdX,nmX,t1,hp1,b1,b2,b3,b4,b5,b6,ne_eq,not_true_eq_false,not_false_eq_true,if_true,if_false]
   rw[jeR hH t1]at hg
   rw[jhG hH t1,hY]at hx
   subst hg
   subst hx
   rw[jbI t1]
   have hw2:=(And.intro b1 (eq_false t1))
   repeat' first|exact hra|exact hr1|exact hr2|exact hr3|exact hr4|exact hr5|simp only[PB,SA,MB,seval,rdB,jae,jaf,jac,jab,jak,jao,jai,tq0,tq1,tq2]|simp only[hw]|simp only[hw2]|simp only[hw3]|refine tT ?_|refine Cos.intro [] [0,1,2,3,4,5,6,7,8,9] rfl ?_|refine And.intro ?_ ?_|exact tC|(refine tI ?_;intro hyp)|intro hyp0|omega
  have u1:=jbe t1
  have hw2:=(And.intro b1 (And.intro t1 u1.1))
  repeat' first|exact hra|exact hr1|exact hr2|exact hr3|exact hr4|exact hr5|simp only[PB,SA,MB,seval,rdB,jae,jaf,jac,jab,jak,jao,jai,tq0,tq1,tq2]|simp only[hw]|simp only[hw2]|simp only[hw3]|refine tT ?_|refine And.intro ?_ ?_|exact tC|(refine tI ?_;intro hyp)|intro hyp0|omega
  exact⟨1,(hC 1).2 ⟨by decide,fun _=>t1,fun q=>absurd q (by decide),fun q=>absurd q (by decide),fun q=>absurd q (by decide),fun q=>absurd q (by decide),fun q=>absurd q (by decide)⟩,by decide,Cos.intro [0,1,2,3] [] rfl (by (simp only[PB,SA,MB,seval,rdB,jae,jaf,jac,jab,jak,jao,jai,tq0,tq1,tq2]<;>exact tE))⟩
 ·try dsimp only
  have t1:=c1 (by decide)
  have u1:=jbe t1
  by_cases t2:upE d a1 ((cur.length:Int)-(pos+varV d a0))=0
  case neg =>
   have hH:hdG d a0 pos cur.length more.length=jc3 (upE d a1 ((cur.length:Int)-(pos+varV d a0))):=by simp only[hdG,t1,t2,hp1,b1,b2,b3,b4,b5,b6,ne_eq,not_true_eq_false,not_false_eq_true,if_true,if_false]
   have hY:hdX d a0 pos cur.length more.length=⟨a2,varE d a1⟩:=by simp only[hdX,nmX,t1,t2,hp1,b1,b2,b3,b4,b5,b6,ne_eq,not_true_eq_false,not_false_eq_true,if_true,if_false]
   rw[jeR hH t2]at hg
   rw[jhG hH t2,hY]at hx
   subst hg
   subst hx
   rw[jbI t2]
   have hw2:=(And.intro b2 (eq_false t2))
   repeat' first|exact hra|exact hr1|exact hr2|exact hr3|exact hr4|exact hr5|simp only[PB,SA,MB,seval,rdB,jae,jaf,jac,jab,jak,jao,jai,tq0,tq1,tq2]|simp only[hw]|simp only[hw2]|simp only[hw3]|refine tT ?_|refine Cos.intro [] [0,1,2,3,4,5,6,7,8,9] rfl ?_|refine And.intro ?_ ?_|exact tC|(refine tI ?_;intro hyp)|intro hyp0|omega
  have u2:=jbe t2
  by_cases t3:varV d a1=0
  case pos =>
   have hH:hdG d a0 pos cur.length more.length=jc3 (3):=by simp only[hdG,t1,t2,t3,hp1,b1,b2,b3,b4,b5,b6,ne_eq,not_true_eq_false,not_false_eq_true,if_true,if_false]
   have hY:hdX d a0 pos cur.length more.length=⟨a2,0⟩:=by simp only[hdX,nmX,t1,t2,t3,hp1,b1,b2,b3,b4,b5,b6,ne_eq,not_true_eq_false,not_false_eq_true,if_true,if_false]
   rw[jeR hH (by decide)]at hg
   rw[jhG hH (by decide),hY]at hx
   subst hg
   subst hx
   rw[jbI (by decide)]
   have hw2:=(And.intro b2 (And.intro t2 (And.intro u2.1 t3)))
   repeat' first|exact hra|exact hr1|exact hr2|exact hr3|exact hr4|exact hr5|simp only[PB,SA,MB,seval,rdB,jae,jaf,jac,jab,jak,jao,jai,tq0,tq1,tq2]|simp only[hw]|simp only[hw2]|simp only[hw3]|refine tT ?_|refine Cos.intro [] [0,1,2,3,4,5,6,7,8,9] rfl ?_|refine And.intro ?_ ?_|exact tC|(refine tI ?_;intro hyp)|intro hyp0|omega
  have hw2:=(And.intro b2 (And.intro t2 (And.intro u2.1 (eq_false t3))))
  repeat' first|exact hra|exact hr1|exact hr2|exact hr3|exact hr4|exact hr5|simp only[PB,SA,MB,seval,rdB,jae,jaf,jac,jab,jak,jao,jai,tq0,tq1,tq2]|simp only[hw]|simp only[hw2]|simp only[hw3]|refine tT ?_|refine And.intro ?_ ?_|exact tC|(refine tI ?_;intro hyp)|intro hyp0|omega
  exact⟨2,(hC 2).2 ⟨by decide,fun _=>c1 (by decide),fun _=>⟨t2,t3⟩,fun q=>absurd q (by decide),fun q=>absurd q (by decide),fun q=>absurd q (by decide),fun q=>absurd q (by decide)⟩,by decide,Cos.intro [0,1,2,3] [] rfl (by (simp only[PB,SA,MB,seval,rdB,jae,jaf,jac,jab,jak,jao,jai,tq0,tq1,tq2]<;>exact tE))⟩
 ·try dsimp only
  have t1:=c1 (by decide)
  have t2:=(c2 (by decide)).1
  have t3:=(c2 (by decide)).2
  have u1:=jbe t1
  have u2:=jbe t2
  by_cases t4:colE d a2=0
  case neg =>
   have hH:hdG d a0 pos cur.length more.length=jc3 (colE d a2):=by simp only[hdG,t1,t2,t3,t4,hp1,b1,b2,b3,b4,b5,b6,ne_eq,not_true_eq_false,not_false_eq_true,if_true,if_false]
   have hY:hdX d a0 pos cur.length more.length=⟨a3,varE d a2⟩:=by simp only[hdX,nmX,t1,t2,t3,t4,hp1,b1,b2,b3,b4,b5,b6,ne_eq,not_true_eq_false,not_false_eq_true,if_true,if_false]
   rw[jeR hH t4]at hg
   rw[jhG hH t4,hY]at hx
   subst hg
   subst hx
   rw[jbI t4]
   rcases jfm d a2 with q|q|q
   ·exact absurd q.2.2 t4
   ·have uq:=jbe q.1
    have wq:=jix (n:=varV d a2) (by omega)
    have hw2:=(And.intro b3 (And.intro q.1 (And.intro uq.1 (And.intro q.2.1 (And.intro q.2.2 wq)))))
    repeat' first|exact hra|exact hr1|exact hr2|exact hr3|exact hr4|exact hr5|simp only[PB,SA,MB,seval,rdB,jae,jaf,jac,jab,jak,jao,jai,tq0,tq1,tq2]|simp only[hw]|simp only[hw2]|simp only[hw3]|refine tT ?_|refine Cos.intro [] [0,1,2,3,4,5,6,7,8,9] rfl ?_|refine And.intro ?_ ?_|exact tC|(refine tI ?_;intro hyp)|intro hyp0|omega
   ·have hw2:=(And.intro b3 (And.intro (eq_false q.1) q.2))
    repeat' first|exact hra|exact hr1|exact hr2|exact hr3|exact hr4|exact hr5|simp only[PB,SA,MB,seval,rdB,jae,jaf,jac,jab,jak,jao,jai,tq0,tq1,tq2]|simp only[hw]|simp only[hw2]|simp only[hw3]|refine tT ?_|refine Cos.intro [] [0,1,2,3,4,5,6,7,8,9] rfl ?_|refine And.intro ?_ ?_|exact tC|(refine tI ?_;intro hyp)|intro hyp0|omega
  have y4:=jfV t4
  have u4:=jbe y4.1
  have w4:=jix (n:=varV d a2) (by omega)
  have hw2:=(And.intro b3 (And.intro y4.1 (And.intro u4.1 (And.intro y4.2 w4))))
  repeat' first|exact hra|exact hr1|exact hr2|exact hr3|exact hr4|exact hr5|simp only[PB,SA,MB,seval,rdB,jae,jaf,jac,jab,jak,jao,jai,tq0,tq1,tq2]|simp only[hw]|simp only[hw2]|simp only[hw3]|refine tT ?_|refine And.intro ?_ ?_|exact tC|(refine tI ?_;intro hyp)|intro hyp0|omega
  exact⟨3,(hC 3).2 ⟨by decide,fun _=>c1 (by decide),fun _=>c2 (by decide),fun _=>t4,fun q=>absurd q (by decide),fun q=>absurd q (by decide),fun q=>absurd q (by decide)⟩,by decide,Cos.intro [0,1,2,3] [] rfl (by (simp only[PB,SA,MB,seval,rdB,jae,jaf,jac,jab,jak,jao,jai,tq0,tq1,tq2]<;>exact tE))⟩
 ·try dsimp only
  have t1:=c1 (by decide)
  have t2:=(c2 (by decide)).1
  have t3:=(c2 (by decide)).2
  have t4:=c3 (by decide)
  have u1:=jbe t1
  have u2:=jbe t2
  have y4:=jfV t4
  have u4:=jbe y4.1
  have w4:=jix (n:=varV d a2) (by omega)
  by_cases t5:colE d a3=0
  case neg =>
   have hH:hdG d a0 pos cur.length more.length=jc3 (colE d a3):=by simp only[hdG,t1,t2,t3,t4,t5,hp1,b1,b2,b3,b4,b5,b6,ne_eq,not_true_eq_false,not_false_eq_true,if_true,if_false]
   have hY:hdX d a0 pos cur.length more.length=⟨a4,varE d a3⟩:=by simp only[hdX,nmX,t1,t2,t3,t4,t5,hp1,b1,b2,b3,b4,b5,b6,ne_eq,not_true_eq_false,not_false_eq_true,if_true,if_false]
   rw[jeR hH t5]at hg
   rw[jhG hH t5,hY]at hx
   subst hg
   subst hx
   rw[jbI t5]
   rcases jfm d a3 with q|q|q
   ·exact absurd q.2.2 t5
   ·have uq:=jbe q.1
    have wq:=jix (n:=varV d a3) (by omega)
    have hw2:=(And.intro b4 (And.intro q.1 (And.intro uq.1 (And.intro q.2.1 (And.intro q.2.2 wq)))))
    repeat' first|exact hra|exact hr1|exact hr2|exact hr3|exact hr4|exact hr5|simp only[PB,SA,MB,seval,rdB,jae,jaf,jac,jab,jak,jao,jai,tq0,tq1,tq2]|simp only[hw]|simp only[hw2]|simp only[hw3]|refine tT ?_|refine Cos.intro [] [0,1,2,3,4,5,6,7,8,9] rfl ?_|refine And.intro ?_ ?_|exact tC|(refine tI ?_;intro hyp)|intro hyp0|omega
   ·have hw2:=(And.intro b4 (And.intro (eq_false q.1) q.2))
    repeat' first|exact hra|exact hr1|exact hr2|exact hr3|exact hr4|exact hr5|simp only[PB,SA,MB,seval,rdB,jae,jaf,jac,jab,jak,jao,jai,tq0,tq1,tq2]|simp only[hw]|simp only[hw2]|simp only[hw3]|refine tT ?_|refine Cos.intro [] [0,1,2,3,4,5,6,7,8,9] rfl ?_|refine And.intro ?_ ?_|exact tC|(refine tI ?_;intro hyp)|intro hyp0|omega
  have y5:=jfV t5
  have u5:=jbe y5.1
  have w5:=jix (n:=varV d a3) (by omega)
  have hw2:=(And.intro b4 (And.intro y5.1 (And.intro u5.1 (And.intro y5.2 w5))))
  repeat' first|exact hra|exact hr1|exact hr2|exact hr3|exact hr4|exact hr5|simp only[PB,SA,MB,seval,rdB,jae,jaf,jac,jab,jak,jao,jai,tq0,tq1,tq2]|simp only[hw]|simp only[hw2]|simp only[hw3]|refine tT ?_|refine And.intro ?_ ?_|exact tC|(refine tI ?_;intro hyp)|intro hyp0|omega
  exact⟨4,(hC 4).2 ⟨by decide,fun _=>c1 (by decide),fun _=>c2 (by decide),fun _=>c3 (by decide),fun _=>t5,fun q=>absurd q (by decide),fun q=>absurd q (by decide)⟩,by decide,Cos.intro [0,1,2,3] [] rfl (by (simp only[PB,SA,MB,seval,rdB,jae,jaf,jac,jab,jak,jao,jai,tq0,tq1,tq2]<;>exact tE))⟩
 ·try dsimp only
  have t1:=c1 (by decide)
  have t2:=(c2 (by decide)).1
  have t3:=(c2 (by decide)).2
  have t4:=c3 (by decide)
  have t5:=c4 (by decide)
  have u1:=jbe t1
  have u2:=jbe t2
  have y4:=jfV t4
  have u4:=jbe y4.1
  have w4:=jix (n:=varV d a2) (by omega)
  have y5:=jfV t5
  have u5:=jbe y5.1
  have w5:=jix (n:=varV d a3) (by omega)
  by_cases t6:upE d a4 255=0
  case neg =>
   have hH:hdG d a0 pos cur.length more.length=jc3 (upE d a4 255):=by simp only[hdG,t1,t2,t3,t4,t5,t6,hp1,b1,b2,b3,b4,b5,b6,ne_eq,not_true_eq_false,not_false_eq_true,if_true,if_false]
   have hY:hdX d a0 pos cur.length more.length=⟨a5,varE d a4⟩:=by simp only[hdX,nmX,t1,t2,t3,t4,t5,t6,hp1,b1,b2,b3,b4,b5,b6,ne_eq,not_true_eq_false,not_false_eq_true,if_true,if_false]
   rw[jeR hH t6]at hg
   rw[jhG hH t6,hY]at hx
   subst hg
   subst hx
   rw[jbI t6]
   have hw2:=(And.intro b5 (eq_false t6))
   repeat' first|exact hra|exact hr1|exact hr2|exact hr3|exact hr4|exact hr5|simp only[PB,SA,MB,seval,rdB,jae,jaf,jac,jab,jak,jao,jai,tq0,tq1,tq2]|simp only[hw]|simp only[hw2]|simp only[hw3]|refine tT ?_|refine Cos.intro [] [0,1,2,3,4,5,6,7,8,9] rfl ?_|refine And.intro ?_ ?_|exact tC|(refine tI ?_;intro hyp)|intro hyp0|omega
  have u6:=jbe t6
  have hw2:=(And.intro b5 (And.intro t6 u6.1))
  repeat' first|exact hra|exact hr1|exact hr2|exact hr3|exact hr4|exact hr5|simp only[PB,SA,MB,seval,rdB,jae,jaf,jac,jab,jak,jao,jai,tq0,tq1,tq2]|simp only[hw]|simp only[hw2]|simp only[hw3]|refine tT ?_|refine And.intro ?_ ?_|exact tC|(refine tI ?_;intro hyp)|intro hyp0|omega
  exact⟨5,(hC 5).2 ⟨by decide,fun _=>c1 (by decide),fun _=>c2 (by decide),fun _=>c3 (by decide),fun _=>c4 (by decide),fun _=>t6,fun q=>absurd q (by decide)⟩,by decide,Cos.intro [0,1,2,3] [] rfl (by (simp only[PB,SA,MB,seval,rdB,jae,jaf,jac,jab,jak,jao,jai,tq0,tq1,tq2]<;>exact tE))⟩
 ·try dsimp only
  have t1:=c1 (by decide)
  have t2:=(c2 (by decide)).1
  have t3:=(c2 (by decide)).2
  have t4:=c3 (by decide)
  have t5:=c4 (by decide)
  have t6:=c5 (by decide)
  have u1:=jbe t1
  have u2:=jbe t2
  have y4:=jfV t4
  have u4:=jbe y4.1
  have w4:=jix (n:=varV d a2) (by omega)
  have y5:=jfV t5
  have u5:=jbe y5.1
  have w5:=jix (n:=varV d a3) (by omega)
  have u6:=jbe t6
  by_cases t7:upE d a5 more.length=0
  case neg =>
   have hH:hdG d a0 pos cur.length more.length=jc3 (upE d a5 more.length):=by simp only[hdG,t1,t2,t3,t4,t5,t6,t7,hp1,b1,b2,b3,b4,b5,b6,ne_eq,not_true_eq_false,not_false_eq_true,if_true,if_false]
   have hY:hdX d a0 pos cur.length more.length=⟨a6,varE d a5⟩:=by simp only[hdX,nmX,t1,t2,t3,t4,t5,t6,t7,hp1,b1,b2,b3,b4,b5,b6,ne_eq,not_true_eq_false,not_false_eq_true,if_true,if_false]
   rw[jeR hH t7]at hg
   rw[jhG hH t7,hY]at hx
   subst hg
   subst hx
   rw[jbI t7]
   have hw2:=(And.intro b6 (eq_false t7))
   repeat' first|exact hra|exact hr1|exact hr2|exact hr3|exact hr4|exact hr5|simp only[PB,SA,MB,seval,rdB,jae,jaf,jac,jab,jak,jao,jai,tq0,tq1,tq2]|simp only[hw]|simp only[hw2]|simp only[hw3]|refine tT ?_|refine Cos.intro [] [0,1,2,3,4,5,6,7,8,9] rfl ?_|refine And.intro ?_ ?_|exact tC|(refine tI ?_;intro hyp)|intro hyp0|omega
  have u7:=jbe t7
  have hw2:=(And.intro b6 (And.intro t7 u7.1))
  repeat' first|exact hra|exact hr1|exact hr2|exact hr3|exact hr4|exact hr5|simp only[PB,SA,MB,seval,rdB,jae,jaf,jac,jab,jak,jao,jai,tq0,tq1,tq2]|simp only[hw]|simp only[hw2]|simp only[hw3]|refine tT ?_|refine And.intro ?_ ?_|exact tC|(refine tI ?_;intro hyp)|intro hyp0|omega
  exact⟨6,(hC 6).2 ⟨by decide,fun _=>c1 (by decide),fun _=>c2 (by decide),fun _=>c3 (by decide),fun _=>c4 (by decide),fun _=>c5 (by decide),fun _=>t7⟩,by decide,Cos.intro [0,1,2,3] [] rfl (by (simp only[PB,SA,MB,seval,rdB,jae,jaf,jac,jab,jak,jao,jai,tq0,tq1,tq2]<;>exact tE))⟩
 try dsimp only
 have t1:=c1 (by decide)
 have t2:=(c2 (by decide)).1
 have t3:=(c2 (by decide)).2
 have t4:=c3 (by decide)
 have t5:=c4 (by decide)
 have t6:=c5 (by decide)
 have t7:=c6 (by decide)
 have u1:=jbe t1
 have u2:=jbe t2
 have y4:=jfV t4
 have u4:=jbe y4.1
 have w4:=jix (n:=varV d a2) (by omega)
 have y5:=jfV t5
 have u5:=jbe y5.1
 have w5:=jix (n:=varV d a3) (by omega)
 have u6:=jbe t6
 have u7:=jbe t7
 have hH:hdG d a0 pos cur.length more.length=⟨0,a6,pos+(varV d a0).toNat,(varV d a1).toNat,⟨varV d a2,varV d a3,varV d a4,varV d a5⟩⟩:=by simp only[hdG,t1,t2,t3,t4,t5,t6,t7,hp1,b1,b2,b3,b4,b5,b6,ne_eq,not_true_eq_false,not_false_eq_true,if_true,if_false]
 have hw2:=(And.intro t1 (And.intro u1.1 (And.intro t2 (And.intro u2.1 (And.intro (eq_false t3) (And.intro y4.1 (And.intro u4.1 (And.intro y4.2 (And.intro w4 (And.intro y5.1 (And.intro u5.1 (And.intro y5.2 (And.intro w5 (And.intro t6 (And.intro u6.1 (And.intro t7 u7.1))))))))))))))))
 obtain⟨U,hU⟩:∃U,letG d k ⟨varV d a2,varV d a3,varV d a4,varV d a5⟩ (varV d a1).toNat a6 (pos+(varV d a0).toNat) cur=U:=⟨_,rfl⟩
 obtain⟨X,hX⟩:∃X,letX d k ⟨varV d a2,varV d a3,varV d a4,varV d a5⟩ (varV d a1).toNat a6 (pos+(varV d a0).toNat) cur=X:=⟨_,rfl⟩
 rw[jAZ hH hU]at hg
 rw[jA3 hH hU,hX]at hx
 have hw3:=And.intro (w_u8 (n:=varV d a4) (by omega)) (jnc (n:=varV d a5) (by omega))
 repeat' first|exact hra|exact hr1|exact hr2|exact hr3|exact hr4|exact hr5|simp only[PB,SA,MB,seval,rdB,jae,jaf,jac,jab,jak,jao,jai,tq0,tq1,tq2]|simp only[hw]|simp only[hw2]|simp only[hw3]|refine tT ?_|refine And.intro ?_ ?_|exact tC|(refine tI ?_;intro hyp)|intro hyp0|omega
 have hNN:((varV d a1).toNat:Int)=varV d a1:=by omega
 have hp0:pos+(varV d a0).toNat≤cur.length:=by omega
 refine T.loop (fun q:Nat×Nat×Nat×List CD=>⟨[(1,.ptr 0 0 0),(2,.ptr 1 0 0),(4,.int .u64 N),(6,.int .i64 q.2.2.1),(7,.int .i64 q.2.2.2.length),(8,.int .u64 i),(9,.ptr 3 0 0),(13,.ptr 4 0 0),(14,.int .i64 q.1)],[.box [.vec (.int .u8) d,.int .i64 q.2.1,.int .i64 0,.int .i64 k,.int .i64 r,.slice 2 0 6 q.2.2.2.length q.2.2.2.length,.int .i64 x,.int .i64 y,.bool hd,.int .u8 mo,.str ti,.vec .str l,.vec .str more],.box [.nils,.int .i64 0,.int .i64 0,.int .i64 0,.int .i64 0,.nils,.int .i64 0,.int .i64 0,.bool false,.int .u8 0,.str (bs []),.nils,.nils],.seq .cell q.2.2.2,.box [.int .i64 (varV d a0),.int .i64 (varV d a1),.int .i64 (varV d a2),.int .i64 (varV d a3),.int .i64 (varV d a4),.int .i64 (varV d a5)],.box [.int .u32 (varV d a2),.int .u32 (varV d a3),.int .u8 (varV d a4),.int .u16 (varV d a5)]]⟩) (fun q=>q.1≤(varV d a1).toNat∧RdOk d q.2.1∧q.2.2.1≤q.2.2.2.length∧q.2.2.2.length=L.length∧letG d k ⟨varV d a2,varV d a3,varV d a4,varV d a5⟩ ((varV d a1).toNat-q.1) q.2.1 q.2.2.1 q.2.2.2=U∧letX d k ⟨varV d a2,varV d a3,varV d a4,varV d a5⟩ ((varV d a1).toNat-q.1) q.2.1 q.2.2.1 q.2.2.2=X) (fun q=>(varV d a1).toNat-q.1) (0,a6,pos+(varV d a0).toNat,cur) ⟨Nat.zero_le _,hr6,hp0,hcl,hU,hX⟩ (Cos.intro [0,1,2,3,4] [] rfl (by simp only[hp1];(simp only[PB,SA,MB,seval,rdB,jae,jaf,jac,jab,jak,jao,jai,tq0,tq1,tq2]<;>exact tE))) (fun q hq=>?_)
 clear hw2 hw3
 obtain⟨j,c0,ps,crr⟩:=q
 obtain⟨hj,hra',hp',hcl',hU',hX'⟩:=hq
 dsimp only at hj hra' hp' hcl' hU' hX'
 have g4:=jar h3 c0
 by_cases hjN:j<(varV d a1).toNat
 case neg =>
  rw[show (varV d a1).toNat-j=0 by omega]at hU' hX'
  simp only[letG]at hU'
  subst hU'
  rw[if_neg (by simp)]at hg hx
  have hw2:IntKind.u64.wrap ((i:Int)+1)=((i+1:Nat):Int):=jmb (by omega)
  repeat' first|simp only[PB,SA,MB,seval,rdB,jae,jaf,jac,jab,jak,jao,jai,tq0,tq1,tq2]|simp only[hw]|simp only[hw2]|simp only[hw3]|refine tT ?_|refine And.intro ?_ ?_|exact tC|(refine tI ?_;intro hyp)|intro hyp0|omega
  refine⟨(i+1,c0,ps,crr),⟨by dsimp only;omega,hra',hp',hcl',?_,?_⟩,by dsimp only;omega,Cos.intro [0,1,2] [] rfl (by (simp only[PB,SA,MB,seval,rdB,jae,jaf,jac,jab,jak,jao,jai,tq0,tq1,tq2]<;>exact tE))⟩
  ·dsimp only
   rw[show N-(i+1)=n' by omega]
   exact hg
  ·dsimp only
   rw[show N-(i+1)=n' by omega]
   exact hx
 obtain⟨m,hm⟩:∃m,(varV d a1).toNat-j=m+1:=⟨(varV d a1).toNat-j-1,by omega⟩
 rw[hm]at hU' hX'
 simp only[letG]at hU'
 simp only[letX,nmX]at hX'
 obtain⟨c1,b7⟩:∃c1,c0+varU d c0=c1:=⟨_,rfl⟩
 have hrc:=jdQ hra' b7
 rw[b7]at hU' hX'
 by_cases s1:upE d c0 1114111=0
 case neg =>
  rw[if_pos s1]at hU' hX'
  subst hU'
  subst hX'
  rw[if_pos s1]at hg hx
  subst hg
  subst hx
  rw[jbI s1]
  have hw2:=And.intro b7 (eq_false s1)
  repeat' first|exact hra'|simp only[PB,SA,MB,seval,rdB,jae,jaf,jac,jab,jak,jao,jai,tq0,tq1,tq2]|simp only[hw]|simp only[hw2]|simp only[hw3]|refine tT ?_|refine Cos.intro [] [0,1,2,3,4,5,6,7,8,9] rfl ?_|refine And.intro ?_ ?_|exact tC|(refine tI ?_;intro hyp)|intro hyp0|omega
 have w1:=jbe s1
 rw[if_neg (by simp[s1])]at hU' hX'
 have hI:I32 (varV d c0):=by
  unfold I32
  omega
 have hm1:((ps % k:Nat):Int)=(ps:Int) % (k:Int):=rfl
 have hm2:0≤(ps:Int) % (k:Int)∧(ps:Int) % (k:Int)<k:=by
  rw[←hm1]
  have:=Nat.mod_lt ps (show 0<k by omega)
  omega
 have hwd:=jsE (varV d c0)
 by_cases s2:Utf.width (varV d c0)=0∨ps=crr.length∨(k:Int)<((ps % k:Nat):Int)+Utf.width (varV d c0)
 ·rw[if_pos s2]at hU' hX'
  subst hU'
  subst hX'
  rw[if_pos (by decide)]at hg hx
  subst hg
  subst hx
  rw[jbI (by decide)]
  have hw2:=And.intro (jo7 (n:=varV d c0) (by omega)) (And.intro b7 (And.intro s1 w1.1))
  repeat' first|exact hra'|exact hI|simp only[PB,SA,MB,seval,rdB,jae,jaf,jac,jab,jak,jao,jai,tq0,tq1,tq2]|simp only[hw]|simp only[hw2]|simp only[hw3]|refine tT ?_|refine Cos.intro [] [0,1,2,3,4,5,6,7,8,9] rfl ?_|refine And.intro ?_ ?_|exact tC|(refine tI ?_;intro hyp)|intro hyp0|omega
 rw[if_neg s2]at hU' hX'
 have s3:=not_or.mp s2
 have s4:=not_or.mp s3.2
 have s5:=s4.2
 rw[hm1]at s5
 have hget:∀A:CD,(crr.set ps A).getD ps default=A:=fun A=>jdo (by omega)
 have hput:(putL crr ps (varV d c0) (Utf.width (varV d c0)) ⟨varV d a2,varV d a3,varV d a4,varV d a5⟩).length=crr.length:=jnO _ _ _ _ _
 have hps:(ps:Int)+Utf.width (varV d c0)=((ps+(Utf.width (varV d c0)).toNat:Nat):Int):=by omega
 have step:∀(Q:(Nat×Nat×Nat×List CD)→Prop),Q (j+1,c1,ps+(Utf.width (varV d c0)).toNat,putL crr ps (varV d c0) (Utf.width (varV d c0)) ⟨varV d a2,varV d a3,varV d a4,varV d a5⟩)→∃x':Nat×Nat×Nat×List CD,(x'.1≤(varV d a1).toNat∧RdOk d x'.2.1∧x'.2.2.1≤x'.2.2.2.length∧x'.2.2.2.length=L.length∧letG d k ⟨varV d a2,varV d a3,varV d a4,varV d a5⟩ ((varV d a1).toNat-x'.1) x'.2.1 x'.2.2.1 x'.2.2.2=U∧letX d k ⟨varV d a2,varV d a3,varV d a4,varV d a5⟩ ((varV d a1).toNat-x'.1) x'.2.1 x'.2.2.1 x'.2.2.2=X)∧(varV d a1).toNat-x'.1<(varV d a1).toNat-j∧Q x':=fun Q hq=>by
  refine⟨_,⟨?_,hrc,?_,hput.trans hcl',?_,?_⟩,?_,hq⟩
  ·dsimp only
   omega
  ·dsimp only
   rw[hput]
   have:=jro (k:=k) (r:=r) (pos:=ps) (by rw[←hL,←hcl'];omega)
   by_cases q:Utf.width (varV d c0)=2
   ·have:=this (by rw[q]at s5;omega)
    rw[←hL,←hcl']at this
    omega
   ·omega
  ·dsimp only
   rw[show (varV d a1).toNat-(j+1)=m by omega]
   exact hU'
  ·dsimp only
   rw[show (varV d a1).toNat-(j+1)=m by omega]
   exact hX'
  ·dsimp only
   omega
 by_cases w2:Utf.width (varV d c0)=2
 ·have hin:ps+1<crr.length:=by
   rw[w2]at s5
   rw[hcl',hL]
   exact jro (by rw[←hL,←hcl'];omega) (by omega)
  have hw2:=And.intro (jo7 (n:=varV d c0) (by omega)) (And.intro b7 (And.intro s1 (And.intro w1.1 (And.intro w2 hget))))
  repeat' first|exact hra'|exact hI|exact hin|exact Int.ofNat_lt.mpr hin|simp only[PB,SA,MB,seval,rdB,jae,jaf,jac,jab,jak,jao,jai,tq0,tq1,tq2]|simp only[hw]|simp only[hw2]|simp only[hw3]|refine tT ?_|refine And.intro ?_ ?_|exact tC|(refine tI ?_;intro hyp)|intro hyp0|omega
  refine step _ (Cos.intro [0,1,2,3,4] [] rfl ?_)
  dsimp only
  rw[hput]
  rw[putL,if_pos w2,w2]
  (simp only[PB,SA,MB,seval,rdB,jae,jaf,jac,jab,jak,jao,jai,tq0,tq1,tq2]<;>exact tE)
 ·have w3:Utf.width (varV d c0)=1:=by omega
  have hw2:=And.intro (jo7 (n:=varV d c0) (by omega)) (And.intro b7 (And.intro s1 (And.intro w1.1 w3)))
  repeat' first|exact hra'|exact hI|simp only[PB,SA,MB,seval,rdB,jae,jaf,jac,jab,jak,jao,jai,tq0,tq1,tq2]|simp only[hw]|simp only[hw2]|simp only[hw3]|refine tT ?_|refine And.intro ?_ ?_|exact tC|(refine tI ?_;intro hyp)|intro hyp0|omega
  refine step _ (Cos.intro [0,1,2,3,4] [] rfl ?_)
  dsimp only
  rw[hput]
  rw[putL,if_neg w2,w3]
  (simp only[PB,SA,MB,seval,rdB,jae,jaf,jac,jab,jak,jao,jai,tq0,tq1,tq2]<;>exact tE))
end
end Go.Proofs.YtcfkfgkndncanaaGreatDoor
