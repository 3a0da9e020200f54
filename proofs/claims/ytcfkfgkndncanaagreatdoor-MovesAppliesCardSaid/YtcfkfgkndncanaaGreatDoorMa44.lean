/- Texts of this claim, merged by a program of this claim: FRapply. -/
import Derived.Test.YtcfkfgkndncanaaGreatDoorMa31
import Derived.Test.YtcfkfgkndncanaaGreatDoorMa40
import Derived.Test.YtcfkfgkndncanaaGreatDoorMa41
import Derived.Test.YtcfkfgkndncanaaGreatDoorMa42
import Derived.Test.YtcfkfgkndncanaaGreatDoorMa43
namespace Go.Proofs.YtcfkfgkndncanaaGreatDoor
set_option linter.unusedVariables false
set_option linter.unusedSimpArgs false
section
open Go.RowKit
set_option maxRecDepth 100000
set_option maxHeartbeats 4000000
abbrev jgt (k:Int) (r:Int) (L:List CD) (x:Int) (y:Int) (hd:Bool) (mo:Int) (ti:ByteArray) (l:List ByteArray) (more:List ByteArray) (d:List Int) (a:Nat) (most:Int):List CV:=[.agg [.vec (.int .u8) d,.int .i64 (a:Int),.int .i64 0,.int .i64 k,.int .i64 r,.vec .cell L,.int .i64 x,.int .i64 y,.bool hd,.int .u8 mo,.str ti,.vec .str l,.vec .str more],.int .i64 most]
abbrev jrI (k:Int) (r:Int) (L:List CD) (x:Int) (y:Int) (hd:Bool) (mo:Int) (ti:ByteArray) (l:List ByteArray) (more:List ByteArray) (d:List Int) (a:Nat) (most:Int):Prop×Res:=(RdOk d a∧(-1000000000000≤most∧most≤1000000000000),.ret (.tup [.int .i64 (varV d a),.agg [.vec (.int .u8) d,.int .i64 (a+varU d a:Nat),.int .i64 0,.int .i64 k,.int .i64 r,.vec .cell L,.int .i64 x,.int .i64 y,.bool hd,.int .u8 mo,.str ti,.vec .str l,.vec .str more],.int .i64 0]))
abbrev jrJ (k:Int) (r:Int) (L:List CD) (x:Int) (y:Int) (hd:Bool) (mo:Int) (ti:ByteArray) (l:List ByteArray) (more:List ByteArray) (d:List Int) (a:Nat) (most:Int):Prop×Res:=(RdOk d a∧(-1000000000000≤most∧most≤1000000000000),.ret (.tup [.int .i64 0,.agg [.vec (.int .u8) d,.int .i64 (a+varU d a:Nat),.int .i64 (varE d a),.int .i64 k,.int .i64 r,.vec .cell L,.int .i64 x,.int .i64 y,.bool hd,.int .u8 mo,.str ti,.vec .str l,.vec .str more],.int .i64 (upE d a most)]))
noncomputable def jgS:Spec:=spOf (α:=Int×Int×(List CD)×Int×Int×Bool×Int×ByteArray×(List ByteArray)×(List ByteArray)×(List Int)×Nat×Int) (fun⟨k,r,L,x,y,hd,mo,ti,l,more,d,a,most⟩=>jgt k r L x y hd mo ti l more d a most) fun⟨k,r,L,x,y,hd,mo,ti,l,more,d,a,most⟩=>jrI k r L x y hd mo ti l more d a most
noncomputable def jgT:Spec:=spOf (α:=Int×Int×(List CD)×Int×Int×Bool×Int×ByteArray×(List ByteArray)×(List ByteArray)×(List Int)×Nat×Int) (fun⟨k,r,L,x,y,hd,mo,ti,l,more,d,a,most⟩=>jgt k r L x y hd mo ti l more d a most) fun⟨k,r,L,x,y,hd,mo,ti,l,more,d,a,most⟩=>jrJ k r L x y hd mo ti l more d a most
noncomputable def esp_r8num:QSpec:=jng (α:=Int×Int×(List CD)×Int×Int×Bool×Int×ByteArray×(List ByteArray)×(List ByteArray)×(List Int)×Nat×Int) (fun⟨k,r,L,x,y,hd,mo,ti,l,more,d,a,most⟩=>jgt k r L x y hd mo ti l more d a most) fun⟨k,r,L,x,y,hd,mo,ti,l,more,d,a,most⟩=>upE d a most
theorem jij:InjS (α:=Int×Int×(List CD)×Int×Int×Bool×Int×ByteArray×(List ByteArray)×(List ByteArray)×(List Int)×Nat×Int) (fun⟨k,r,L,x,y,hd,mo,ti,l,more,d,a,most⟩=>jgt k r L x y hd mo ti l more d a most):=injS
theorem jag (k:Int) (r:Int) (L:List CD) (x:Int) (y:Int) (hd:Bool) (mo:Int) (ti:ByteArray) (l:List ByteArray) (more:List ByteArray) (d:List Int) (a:Nat) (most:Int):jgS (jgt k r L x y hd mo ti l more d a most)=some (jrI k r L x y hd mo ti l more d a most):=jaq _ jij (k,r,L,x,y,hd,mo,ti,l,more,d,a,most)
theorem jah (k:Int) (r:Int) (L:List CD) (x:Int) (y:Int) (hd:Bool) (mo:Int) (ti:ByteArray) (l:List ByteArray) (more:List ByteArray) (d:List Int) (a:Nat) (most:Int):jgT (jgt k r L x y hd mo ti l more d a most)=some (jrJ k r L x y hd mo ti l more d a most):=jaq _ jij (k,r,L,x,y,hd,mo,ti,l,more,d,a,most)
theorem jad (k:Int) (r:Int) (L:List CD) (x:Int) (y:Int) (hd:Bool) (mo:Int) (ti:ByteArray) (l:List ByteArray) (more:List ByteArray) (d:List Int) (a:Nat) (most:Int):esp_r8num (jgt k r L x y hd mo ti l more d a most)=upE d a most:=jeK _ jij (k,r,L,x,y,hd,mo,ti,l,more,d,a,most)
theorem jkg:AliasQ Tryz.prog E0 34 jgS jgT esp_r8num:=AliasQ.of jij (fun _=>rfl) fun⟨k,r,L,x,y,hd,mo,ti,l,more,d,a,most⟩ hG=>TF.intro (V:=(VV [(68,conA [.agg [.sl (.int .u8),.any,.any]] sp_rrvar)] (.cons (jaa jb8) (Alias.soundA jii) GOk.nil) 35 0)) jb6 rfl rfl (by
 dsimp only[jgt,jrI,jrJ]at hG ⊢
 obtain⟨hr1,hm⟩:=hG
 have h3:=hr1.2.2
 have v:=jar h3 a
 by_cases t:upE d a most=0
 ·have u:=jbe t
  rw[jeZ t]
  have hw:=And.intro u.1 (And.intro (jmb (n:=most) (by omega)) (jf0 (n:=varV d a) (by omega)))
  repeat' first|exact h3 _ ‹_›|exact hr1.1|exact hr1.2.1|simp only[PB,SA,seval,rdB,jaP,tq0,tq1,tq2]|simp only[hw]|refine tT ?_|refine Cos.intro [] [0,1,2,3,4,5,6,7,8,9] rfl ?_|refine And.intro ?_ ?_|exact tC|(refine tI ?_;intro hyp)|intro hyp0|omega
 ·rw[jbI t]
  by_cases t1:varE d a=0
  ·have hU:upE d a most=3:=by
    unfold upE at t ⊢
    rw[if_neg (by simp[t1])]at t ⊢
    split at t
    ·rename_i q
     rw[if_pos q]
    ·exact absurd rfl t
   rw[hU]
   by_cases t2:most<0
   ·have hw:=And.intro t1 (eq_true t2)
    repeat' first|exact h3 _ ‹_›|exact hr1.1|exact hr1.2.1|simp only[PB,SA,seval,rdB,jaP,tq0,tq1,tq2]|simp only[hw]|refine tT ?_|refine Cos.intro [] [0,1,2,3,4,5,6,7,8,9] rfl ?_|refine And.intro ?_ ?_|exact tC|(refine tI ?_;intro hyp)|intro hyp0|omega
   ·have t3:most<varV d a:=by
     unfold upE at t
     rw[if_neg (by simp[t1])]at t
     by_cases q:most<0∨most<varV d a
     ·omega
     ·rw[if_neg q]at t
      exact absurd rfl t
    have hw:=And.intro t1 (And.intro (eq_false t2) (jmb (n:=most) (by omega)))
    repeat' first|exact h3 _ ‹_›|exact hr1.1|exact hr1.2.1|simp only[PB,SA,seval,rdB,jaP,tq0,tq1,tq2]|simp only[hw]|refine tT ?_|refine Cos.intro [] [0,1,2,3,4,5,6,7,8,9] rfl ?_|refine And.intro ?_ ?_|exact tC|(refine tI ?_;intro hyp)|intro hyp0|omega
  ·have hU:upE d a most=varE d a:=if_pos t1
   rw[hU]
   have hw:=eq_false t1
   repeat' first|exact h3 _ ‹_›|exact hr1.1|exact hr1.2.1|simp only[PB,SA,seval,rdB,jaP,tq0,tq1,tq2]|simp only[hw]|refine tT ?_|refine Cos.intro [] [0,1,2,3,4,5,6,7,8,9] rfl ?_|refine And.intro ?_ ?_|exact tC|(refine tI ?_;intro hyp)|intro hyp0|omega)
abbrev jdR (k:Int) (r:Int) (L:List CD) (x:Int) (y:Int) (hd:Bool) (mo:Int) (ti:ByteArray) (l:List ByteArray) (more:List ByteArray) (d:List Int) (a:Nat):List CV:=[.agg [.vec (.int .u8) d,.int .i64 (a:Int),.int .i64 0,.int .i64 k,.int .i64 r,.vec .cell L,.int .i64 x,.int .i64 y,.bool hd,.int .u8 mo,.str ti,.vec .str l,.vec .str more]]
abbrev jlY (k:Int) (r:Int) (L:List CD) (x:Int) (y:Int) (hd:Bool) (mo:Int) (ti:ByteArray) (l:List ByteArray) (more:List ByteArray) (d:List Int) (a:Nat):Prop×Res:=(RdOk d a,.ret (.tup [.int .u64 (varV d a),.agg [.vec (.int .u8) d,.int .i64 (a+varU d a:Nat),.int .i64 0,.int .i64 k,.int .i64 r,.vec .cell L,.int .i64 x,.int .i64 y,.bool hd,.int .u8 mo,.str ti,.vec .str l,.vec .str more],.int .i64 0]))
abbrev jlZ (k:Int) (r:Int) (L:List CD) (x:Int) (y:Int) (hd:Bool) (mo:Int) (ti:ByteArray) (l:List ByteArray) (more:List ByteArray) (d:List Int) (a:Nat):Prop×Res:=(RdOk d a,.ret (.tup [.int .u64 0,.agg [.vec (.int .u8) d,.int .i64 (a+varU d a:Nat),.int .i64 (varE d a),.int .i64 k,.int .i64 r,.vec .cell L,.int .i64 x,.int .i64 y,.bool hd,.int .u8 mo,.str ti,.vec .str l,.vec .str more],.int .i64 (jdr d a)]))
noncomputable def jgU:Spec:=spOf (α:=Int×Int×(List CD)×Int×Int×Bool×Int×ByteArray×(List ByteArray)×(List ByteArray)×(List Int)×Nat) (fun⟨k,r,L,x,y,hd,mo,ti,l,more,d,a⟩=>jdR k r L x y hd mo ti l more d a) fun⟨k,r,L,x,y,hd,mo,ti,l,more,d,a⟩=>jlY k r L x y hd mo ti l more d a
noncomputable def jgV:Spec:=spOf (α:=Int×Int×(List CD)×Int×Int×Bool×Int×ByteArray×(List ByteArray)×(List ByteArray)×(List Int)×Nat) (fun⟨k,r,L,x,y,hd,mo,ti,l,more,d,a⟩=>jdR k r L x y hd mo ti l more d a) fun⟨k,r,L,x,y,hd,mo,ti,l,more,d,a⟩=>jlZ k r L x y hd mo ti l more d a
noncomputable def esp_r8count:QSpec:=jng (α:=Int×Int×(List CD)×Int×Int×Bool×Int×ByteArray×(List ByteArray)×(List ByteArray)×(List Int)×Nat) (fun⟨k,r,L,x,y,hd,mo,ti,l,more,d,a⟩=>jdR k r L x y hd mo ti l more d a) fun⟨k,r,L,x,y,hd,mo,ti,l,more,d,a⟩=>jdr d a
theorem jfT:InjS (α:=Int×Int×(List CD)×Int×Int×Bool×Int×ByteArray×(List ByteArray)×(List ByteArray)×(List Int)×Nat) (fun⟨k,r,L,x,y,hd,mo,ti,l,more,d,a⟩=>jdR k r L x y hd mo ti l more d a):=injS
theorem jae (k:Int) (r:Int) (L:List CD) (x:Int) (y:Int) (hd:Bool) (mo:Int) (ti:ByteArray) (l:List ByteArray) (more:List ByteArray) (d:List Int) (a:Nat):jgU (jdR k r L x y hd mo ti l more d a)=some (jlY k r L x y hd mo ti l more d a):=jaq _ jfT (k,r,L,x,y,hd,mo,ti,l,more,d,a)
theorem jaf (k:Int) (r:Int) (L:List CD) (x:Int) (y:Int) (hd:Bool) (mo:Int) (ti:ByteArray) (l:List ByteArray) (more:List ByteArray) (d:List Int) (a:Nat):jgV (jdR k r L x y hd mo ti l more d a)=some (jlZ k r L x y hd mo ti l more d a):=jaq _ jfT (k,r,L,x,y,hd,mo,ti,l,more,d,a)
theorem jac (k:Int) (r:Int) (L:List CD) (x:Int) (y:Int) (hd:Bool) (mo:Int) (ti:ByteArray) (l:List ByteArray) (more:List ByteArray) (d:List Int) (a:Nat):esp_r8count (jdR k r L x y hd mo ti l more d a)=jdr d a:=jeK _ jfT (k,r,L,x,y,hd,mo,ti,l,more,d,a)
theorem jmQ:AliasQ Tryz.prog E0 73 jgU jgV esp_r8count:=AliasQ.of jfT (fun _=>rfl) fun⟨k,r,L,x,y,hd,mo,ti,l,more,d,a⟩ hG=>TF.intro (V:=(VV [(68,conA [.agg [.sl (.int .u8),.any,.any]] sp_rrvar)] (.cons (jaa jb8) (Alias.soundA jii) GOk.nil) 26 0)) jdD rfl rfl (by
 dsimp only[jdR,jlY,jlZ]at hG ⊢
 have hr1:=hG
 have h3:=hr1.2.2
 have v:=jar h3 a
 by_cases t1:varE d a=0
 ·by_cases t2:varV d a=0
  ·have hU:jdr d a=3:=by rw[jdr,if_neg (by simp[t1]),if_pos t2]
   rw[hU,jbI (by decide)]
   have hw:=And.intro t1 t2
   repeat' first|exact h3 _ ‹_›|exact hr1.1|exact hr1.2.1|simp only[PB,SA,seval,rdB,jaP,tq0,tq1,tq2]|simp only[hw]|refine tT ?_|refine Cos.intro [] [0,1,2,3,4,5,6,7,8,9] rfl ?_|refine And.intro ?_ ?_|exact tC|(refine tI ?_;intro hyp)|intro hyp0|omega
  ·have hU:jdr d a=0:=by rw[jdr,if_neg (by simp[t1]),if_neg t2]
   rw[hU,jeZ rfl]
   have hw:=And.intro t1 (eq_false t2)
   repeat' first|exact h3 _ ‹_›|exact hr1.1|exact hr1.2.1|simp only[PB,SA,seval,rdB,jaP,tq0,tq1,tq2]|simp only[hw]|refine tT ?_|refine Cos.intro [] [0,1,2,3,4,5,6,7,8,9] rfl ?_|refine And.intro ?_ ?_|exact tC|(refine tI ?_;intro hyp)|intro hyp0|omega
 ·have hU:jdr d a=varE d a:=if_pos t1
  rw[hU,jbI t1]
  have hw:=eq_false t1
  repeat' first|exact h3 _ ‹_›|exact hr1.1|exact hr1.2.1|simp only[PB,SA,seval,rdB,jaP,tq0,tq1,tq2]|simp only[hw]|refine tT ?_|refine Cos.intro [] [0,1,2,3,4,5,6,7,8,9] rfl ?_|refine And.intro ?_ ?_|exact tC|(refine tI ?_;intro hyp)|intro hyp0|omega)
abbrev jdS (k:Int) (r:Int) (L:List CD) (x:Int) (y:Int) (hd:Bool) (mo:Int) (ti:ByteArray) (l:List ByteArray) (more:List ByteArray) (d:List Int) (a:Nat) (kd:Int):List CV:=[.agg [.vec (.int .u8) d,.int .i64 (a:Int),.int .i64 0,.int .i64 k,.int .i64 r,.vec .cell L,.int .i64 x,.int .i64 y,.bool hd,.int .u8 mo,.str ti,.vec .str l,.vec .str more],.int .i64 kd]
abbrev jl0 (k:Int) (r:Int) (L:List CD) (x:Int) (y:Int) (hd:Bool) (mo:Int) (ti:ByteArray) (l:List ByteArray) (more:List ByteArray) (d:List Int) (a:Nat) (kd:Int):Prop×Res:=(RdOk d a∧((1≤k∧k≤80)∧(1≤r∧r≤24))∧(1≤kd∧kd≤4),.ret (.tup [.agg [.vec (.int .u8) d,.int .i64 ((thG d kd ⟨k,r,L,x,y,hd,mo,ti,l,more,a⟩).2.a:Int),.int .i64 0,.int .i64 (thG d kd ⟨k,r,L,x,y,hd,mo,ti,l,more,a⟩).2.k,.int .i64 (thG d kd ⟨k,r,L,x,y,hd,mo,ti,l,more,a⟩).2.r,.vec .cell (thG d kd ⟨k,r,L,x,y,hd,mo,ti,l,more,a⟩).2.L,.int .i64 (thG d kd ⟨k,r,L,x,y,hd,mo,ti,l,more,a⟩).2.x,.int .i64 (thG d kd ⟨k,r,L,x,y,hd,mo,ti,l,more,a⟩).2.y,.bool (thG d kd ⟨k,r,L,x,y,hd,mo,ti,l,more,a⟩).2.hd,.int .u8 (thG d kd ⟨k,r,L,x,y,hd,mo,ti,l,more,a⟩).2.mo,.str (thG d kd ⟨k,r,L,x,y,hd,mo,ti,l,more,a⟩).2.ti,.vec .str (thG d kd ⟨k,r,L,x,y,hd,mo,ti,l,more,a⟩).2.l,.vec .str (thG d kd ⟨k,r,L,x,y,hd,mo,ti,l,more,a⟩).2.more],.int .i64 0]))
abbrev jl1 (k:Int) (r:Int) (L:List CD) (x:Int) (y:Int) (hd:Bool) (mo:Int) (ti:ByteArray) (l:List ByteArray) (more:List ByteArray) (d:List Int) (a:Nat) (kd:Int):Prop×Res:=(RdOk d a∧((1≤k∧k≤80)∧(1≤r∧r≤24))∧(1≤kd∧kd≤4),.ret (.tup [.agg [.vec (.int .u8) d,.int .i64 ((plX d kd ⟨k,r,L,x,y,hd,mo,ti,l,more,a⟩).1.a:Int),.int .i64 (plX d kd ⟨k,r,L,x,y,hd,mo,ti,l,more,a⟩).2,.int .i64 (plX d kd ⟨k,r,L,x,y,hd,mo,ti,l,more,a⟩).1.k,.int .i64 (plX d kd ⟨k,r,L,x,y,hd,mo,ti,l,more,a⟩).1.r,.vec .cell (plX d kd ⟨k,r,L,x,y,hd,mo,ti,l,more,a⟩).1.L,.int .i64 (plX d kd ⟨k,r,L,x,y,hd,mo,ti,l,more,a⟩).1.x,.int .i64 (plX d kd ⟨k,r,L,x,y,hd,mo,ti,l,more,a⟩).1.y,.bool (plX d kd ⟨k,r,L,x,y,hd,mo,ti,l,more,a⟩).1.hd,.int .u8 (plX d kd ⟨k,r,L,x,y,hd,mo,ti,l,more,a⟩).1.mo,.str (plX d kd ⟨k,r,L,x,y,hd,mo,ti,l,more,a⟩).1.ti,.vec .str (plX d kd ⟨k,r,L,x,y,hd,mo,ti,l,more,a⟩).1.l,.vec .str (plX d kd ⟨k,r,L,x,y,hd,mo,ti,l,more,a⟩).1.more],.int .i64 (thG d kd ⟨k,r,L,x,y,hd,mo,ti,l,more,a⟩).1]))
noncomputable def jju:Spec:=spOf (α:=Int×Int×(List CD)×Int×Int×Bool×Int×ByteArray×(List ByteArray)×(List ByteArray)×(List Int)×Nat×Int) (fun⟨k,r,L,x,y,hd,mo,ti,l,more,d,a,kd⟩=>jdS k r L x y hd mo ti l more d a kd) fun⟨k,r,L,x,y,hd,mo,ti,l,more,d,a,kd⟩=>jl0 k r L x y hd mo ti l more d a kd
noncomputable def jjv:Spec:=spOf (α:=Int×Int×(List CD)×Int×Int×Bool×Int×ByteArray×(List ByteArray)×(List ByteArray)×(List Int)×Nat×Int) (fun⟨k,r,L,x,y,hd,mo,ti,l,more,d,a,kd⟩=>jdS k r L x y hd mo ti l more d a kd) fun⟨k,r,L,x,y,hd,mo,ti,l,more,d,a,kd⟩=>jl1 k r L x y hd mo ti l more d a kd
noncomputable def esp_r8plain:QSpec:=jng (α:=Int×Int×(List CD)×Int×Int×Bool×Int×ByteArray×(List ByteArray)×(List ByteArray)×(List Int)×Nat×Int) (fun⟨k,r,L,x,y,hd,mo,ti,l,more,d,a,kd⟩=>jdS k r L x y hd mo ti l more d a kd) fun⟨k,r,L,x,y,hd,mo,ti,l,more,d,a,kd⟩=>(thG d kd ⟨k,r,L,x,y,hd,mo,ti,l,more,a⟩).1
theorem jfU:InjS (α:=Int×Int×(List CD)×Int×Int×Bool×Int×ByteArray×(List ByteArray)×(List ByteArray)×(List Int)×Nat×Int) (fun⟨k,r,L,x,y,hd,mo,ti,l,more,d,a,kd⟩=>jdS k r L x y hd mo ti l more d a kd):=injS
theorem jaS (k:Int) (r:Int) (L:List CD) (x:Int) (y:Int) (hd:Bool) (mo:Int) (ti:ByteArray) (l:List ByteArray) (more:List ByteArray) (d:List Int) (a:Nat) (kd:Int):jju (jdS k r L x y hd mo ti l more d a kd)=some (jl0 k r L x y hd mo ti l more d a kd):=jaq _ jfU (k,r,L,x,y,hd,mo,ti,l,more,d,a,kd)
theorem jaT (k:Int) (r:Int) (L:List CD) (x:Int) (y:Int) (hd:Bool) (mo:Int) (ti:ByteArray) (l:List ByteArray) (more:List ByteArray) (d:List Int) (a:Nat) (kd:Int):jjv (jdS k r L x y hd mo ti l more d a kd)=some (jl1 k r L x y hd mo ti l more d a kd):=jaq _ jfU (k,r,L,x,y,hd,mo,ti,l,more,d,a,kd)
theorem jaB (k:Int) (r:Int) (L:List CD) (x:Int) (y:Int) (hd:Bool) (mo:Int) (ti:ByteArray) (l:List ByteArray) (more:List ByteArray) (d:List Int) (a:Nat) (kd:Int):esp_r8plain (jdS k r L x y hd mo ti l more d a kd)=(thG d kd ⟨k,r,L,x,y,hd,mo,ti,l,more,a⟩).1:=jeK _ jfU (k,r,L,x,y,hd,mo,ti,l,more,d,a,kd)
theorem jtI:AliasQ Tryz.prog E0 32 jju jjv esp_r8plain:=AliasQ.of jfU (fun _=>rfl) fun⟨k,r,L,x,y,hd,mo,ti,l,more,d,a,kd⟩ hG=>TF.intro (V:=(VV [(68,conA [.agg [.sl (.int .u8),.any,.any]] sp_rrvar),(34,conQ [.agg [.sl (.int .u8),.any,.any,.any,.any,.sl .cell,.any,.any,.any,.any,.any,.sl .str,.sl .str],.any] jgS jgT esp_r8num),(69,conA [.agg [.sl (.int .u8),.any,.any],.any] sp_rrtext),(55,conF [.any,.any] sp_rblankT)] (.cons (jaa jb8) (Alias.soundA jii) (.cons (jaa jb6) (AliasQ.soundQ jkg) (.cons (jaa jdv) (Alias.soundA jpQ) (.cons (jaa jhz) (Fresh.soundF jtF) GOk.nil)))) 149 0)) jfr rfl rfl (by
 dsimp only[jdS,jl0,jl1]at hG ⊢
 obtain⟨hr1,⟨hk,hr⟩,hkd⟩:=hG
 have h3:=hr1.2.2
 obtain⟨a1,b1⟩:∃a1,a+varU d a=a1:=⟨_,rfl⟩
 obtain⟨a2,b2⟩:∃a2,a1+varU d a1=a2:=⟨_,rfl⟩
 obtain⟨a3,b3⟩:∃a3,a2+varU d a2=a3:=⟨_,rfl⟩
 have hr2:=jdQ hr1 b1
 have hr3:=jdQ hr2 b2
 have v1:=jar h3 a
 have v2:=jar h3 a1
 have v3:=jar h3 a2
 obtain rfl|rfl|rfl|rfl:kd=1∨kd=2∨kd=3∨kd=4:=by omega
 ·have hT:thG d 1 ⟨k,r,L,x,y,hd,mo,ti,l,more,a⟩=th1 d ⟨k,r,L,x,y,hd,mo,ti,l,more,a⟩:=rfl
  have hP:plX d 1 ⟨k,r,L,x,y,hd,mo,ti,l,more,a⟩=(if varE d a≠0 then (⟨k,r,L,x,y,hd,mo,ti,l,more,a⟩,0) else (⟨k,r,L,x,y,hd,mo,ti,l,more,a2⟩,varE d a1)):=by
   simp only[plX,if_true,b1,b2]
  rw[hT,hP]
  by_cases t1:varE d a=0
  case neg =>
   have hW:th1 d ⟨k,r,L,x,y,hd,mo,ti,l,more,a⟩=(varE d a,.bad):=by simp only[th1,t1,ne_eq,not_true_eq_false,not_false_eq_true,if_true,if_false]
   rw[hW,jbI t1,if_pos t1]
   have hw:=eq_false t1
   repeat' first|exact h3 _ ‹_›|exact hr1|exact hr2|exact hr3|exact hr1.1|exact hr1.2.1|exact hr2.1|exact hr3.1|simp only[PB,SA,seval,rdB,jaP,jag,jah,jad,ja6,jbE,tq0,tq1,tq2]|simp only[hw]|refine tT ?_|refine Cos.intro [] [0,1,2,3,4,5,6,7,8,9] rfl ?_|refine And.intro ?_ ?_|exact tC|(refine tI ?_;intro hyp)|intro hyp0|omega
  rw[if_neg (by simp[t1])]
  by_cases t2:varE d a1=0
  case neg =>
   have hW:th1 d ⟨k,r,L,x,y,hd,mo,ti,l,more,a⟩=(varE d a1,.bad):=by simp only[th1,b1,t1,t2,ne_eq,not_true_eq_false,not_false_eq_true,if_true,if_false]
   rw[hW,jbI t2]
   have hw:=And.intro b1 (And.intro t1 (And.intro b2 (eq_false t2)))
   repeat' first|exact h3 _ ‹_›|exact hr1|exact hr2|exact hr3|exact hr1.1|exact hr1.2.1|exact hr2.1|exact hr3.1|simp only[PB,SA,seval,rdB,jaP,jag,jah,jad,ja6,jbE,tq0,tq1,tq2]|simp only[hw]|refine tT ?_|refine Cos.intro [] [0,1,2,3,4,5,6,7,8,9] rfl ?_|refine And.intro ?_ ?_|exact tC|(refine tI ?_;intro hyp)|intro hyp0|omega
  by_cases t3:80<varV d a∨24<varV d a1∨varV d a*varV d a1=0
  ·have hW:th1 d ⟨k,r,L,x,y,hd,mo,ti,l,more,a⟩=(3,.bad):=by
    simp only[th1,b1,t1,t2,ne_eq,not_true_eq_false,not_false_eq_true,if_true,if_false,if_pos t3]
   rw[hW,jbI (by decide)]
   have t4:varV d a<1∨80<varV d a∨varV d a1<1∨24<varV d a1:=by
    rcases t3 with q|q|q
    ·omega
    ·omega
    ·rcases Int.mul_eq_zero.1 q with q|q<;>omega
   clear t3
   have hw:=And.intro b1 (And.intro t1 (And.intro b2 t2))
   repeat' first|exact h3 _ ‹_›|exact hr1|exact hr2|exact hr3|exact hr1.1|exact hr1.2.1|exact hr2.1|exact hr3.1|simp only[PB,SA,seval,rdB,jaP,jag,jah,jad,ja6,jbE,tq0,tq1,tq2]|simp only[hw]|refine tT ?_|refine Cos.intro [] [0,1,2,3,4,5,6,7,8,9] rfl ?_|refine And.intro ?_ ?_|exact tC|(refine tI ?_;intro hyp)|intro hyp0|omega
   all_goals (exfalso;omega)
  ·have hW:th1 d ⟨k,r,L,x,y,hd,mo,ti,l,more,a⟩=(0,⟨varV d a,varV d a1,List.replicate ((varV d a).toNat*(varV d a1).toNat) blank0,0,0,false,0,bs [],[],[],a2⟩):=by
    simp only[th1,b1,b2,t1,t2,ne_eq,not_true_eq_false,not_false_eq_true,if_true,if_false,if_neg t3]
   rw[hW,jeZ rfl]
   have s1:=not_or.mp t3
   have s2:=not_or.mp s1.2
   have hfit:=jsH (x:=varV d a) (y:=varV d a1) (by omega) (by omega) s2.2
   have s3:¬(varV d a=0):=fun e=>s2.2 (by rw[e,Int.zero_mul])
   have s4:¬(varV d a1=0):=fun e=>s2.2 (by rw[e,Int.mul_zero])
   have hw:=And.intro b1 (And.intro t1 (And.intro b2 (And.intro t2 (And.intro (jf0 (n:=varV d a) (by omega)) (jf0 (n:=varV d a1) (by omega))))))
   have p1:=s1
   have p2:=s2
   have p3:=p1.1
   have p4:=p2.1
   clear t3 s1 s2 p1 p2
   repeat' first|exact h3 _ ‹_›|exact hr1|exact hr2|exact hr3|exact hr1.1|exact hr1.2.1|exact hr2.1|exact hr3.1|exact hfit|simp only[PB,SA,seval,rdB,jaP,jag,jah,jad,ja6,jbE,tq0,tq1,tq2]|simp only[hw]|refine tT ?_|refine Cos.intro [] [0,1,2,3,4,5,6,7,8,9] rfl ?_|refine And.intro ?_ ?_|exact tC|(refine tI ?_;intro hyp)|intro hyp0|omega
   all_goals (exfalso;omega)
 ·have hT:thG d 2 ⟨k,r,L,x,y,hd,mo,ti,l,more,a⟩=th2 d ⟨k,r,L,x,y,hd,mo,ti,l,more,a⟩:=rfl
  have hP:plX d 2 ⟨k,r,L,x,y,hd,mo,ti,l,more,a⟩=(if upE d a (k-1)≠0 then (⟨k,r,L,x,y,hd,mo,ti,l,more,a1⟩,varE d a) else if upE d a1 (r-1)≠0 then (⟨k,r,L,varV d a,y,hd,mo,ti,l,more,a2⟩,varE d a1) else (⟨k,r,L,varV d a,varV d a1,false,mo,ti,l,more,a3⟩,varE d a2)):=by
   simp only[plX,b1,b2,b3,if_true,if_neg (show ¬((2:Int)=1) by decide)]
  rw[hT,hP]
  by_cases t1:upE d a (k-1)=0
  case neg =>
   have hW:th2 d ⟨k,r,L,x,y,hd,mo,ti,l,more,a⟩=(upE d a (k-1),.bad):=by simp only[th2,b1,t1,ne_eq,not_true_eq_false,not_false_eq_true,if_true,if_false]
   rw[hW,jbI t1,if_pos t1]
   have hw:=And.intro b1 (eq_false t1)
   repeat' first|exact h3 _ ‹_›|exact hr1|exact hr2|exact hr3|exact hr1.1|exact hr1.2.1|exact hr2.1|exact hr3.1|simp only[PB,SA,seval,rdB,jaP,jag,jah,jad,ja6,jbE,tq0,tq1,tq2]|simp only[hw]|refine tT ?_|refine Cos.intro [] [0,1,2,3,4,5,6,7,8,9] rfl ?_|refine And.intro ?_ ?_|exact tC|(refine tI ?_;intro hyp)|intro hyp0|omega
  rw[if_neg (by simp[t1])]
  by_cases t2:upE d a1 (r-1)=0
  case neg =>
   have hW:th2 d ⟨k,r,L,x,y,hd,mo,ti,l,more,a⟩=(upE d a1 (r-1),.bad):=by simp only[th2,b1,t1,t2,ne_eq,not_true_eq_false,not_false_eq_true,if_true,if_false]
   rw[hW,jbI t2,if_pos t2]
   have hw:=And.intro b1 (And.intro t1 (And.intro b2 (eq_false t2)))
   repeat' first|exact h3 _ ‹_›|exact hr1|exact hr2|exact hr3|exact hr1.1|exact hr1.2.1|exact hr2.1|exact hr3.1|simp only[PB,SA,seval,rdB,jaP,jag,jah,jad,ja6,jbE,tq0,tq1,tq2]|simp only[hw]|refine tT ?_|refine Cos.intro [] [0,1,2,3,4,5,6,7,8,9] rfl ?_|refine And.intro ?_ ?_|exact tC|(refine tI ?_;intro hyp)|intro hyp0|omega
  rw[if_neg (by simp[t2])]
  by_cases t3:upE d a2 1=0
  case neg =>
   have hW:th2 d ⟨k,r,L,x,y,hd,mo,ti,l,more,a⟩=(upE d a2 1,.bad):=by simp only[th2,b1,b2,t1,t2,t3,ne_eq,not_true_eq_false,not_false_eq_true,if_true,if_false]
   rw[hW,jbI t3]
   have hw:=And.intro b1 (And.intro t1 (And.intro b2 (And.intro t2 (And.intro b3 (eq_false t3)))))
   repeat' first|exact h3 _ ‹_›|exact hr1|exact hr2|exact hr3|exact hr1.1|exact hr1.2.1|exact hr2.1|exact hr3.1|simp only[PB,SA,seval,rdB,jaP,jag,jah,jad,ja6,jbE,tq0,tq1,tq2]|simp only[hw]|refine tT ?_|refine Cos.intro [] [0,1,2,3,4,5,6,7,8,9] rfl ?_|refine And.intro ?_ ?_|exact tC|(refine tI ?_;intro hyp)|intro hyp0|omega
  have hW:th2 d ⟨k,r,L,x,y,hd,mo,ti,l,more,a⟩=(0,⟨k,r,L,varV d a,varV d a1,decide (varV d a2=1),mo,ti,l,more,a3⟩):=by simp only[th2,b1,b2,b3,t1,t2,t3,ne_eq,not_true_eq_false,not_false_eq_true,if_true,if_false]
  rw[hW,jeZ rfl]
  have hw:=And.intro b1 (And.intro t1 (And.intro b2 (And.intro t2 (And.intro b3 t3))))
  repeat' first|exact h3 _ ‹_›|exact hr1|exact hr2|exact hr3|exact hr1.1|exact hr1.2.1|exact hr2.1|exact hr3.1|simp only[PB,SA,seval,rdB,jaP,jag,jah,jad,ja6,jbE,tq0,tq1,tq2]|simp only[hw]|refine tT ?_|refine Cos.intro [] [0,1,2,3,4,5,6,7,8,9] rfl ?_|refine And.intro ?_ ?_|exact tC|(refine tI ?_;intro hyp)|intro hyp0|omega
 ·have hT:thG d 3 ⟨k,r,L,x,y,hd,mo,ti,l,more,a⟩=th3 d ⟨k,r,L,x,y,hd,mo,ti,l,more,a⟩:=rfl
  have hP:plX d 3 ⟨k,r,L,x,y,hd,mo,ti,l,more,a⟩=(⟨k,r,L,x,y,hd,mo,bs [],l,more,a⟩,jcB d a 64):=by
   simp only[plX,if_true,if_neg (show ¬((3:Int)=1) by decide),if_neg (show ¬((3:Int)=2) by decide)]
  rw[hT,hP]
  by_cases t1:jcB d a 64=0
  ·have hW:th3 d ⟨k,r,L,x,y,hd,mo,ti,l,more,a⟩=(0,⟨k,r,L,x,y,hd,mo,jbl (jcM d a 64),l,more,a+jcU d a 64⟩):=if_neg (by simp[t1])
   rw[hW,jeZ rfl]
   have hw:=t1
   repeat' first|exact h3 _ ‹_›|exact hr1|exact hr2|exact hr3|exact hr1.1|exact hr1.2.1|exact hr2.1|exact hr3.1|simp only[PB,SA,seval,rdB,jaP,jag,jah,jad,ja6,jbE,tq0,tq1,tq2]|simp only[hw]|refine tT ?_|refine Cos.intro [] [0,1,2,3,4,5,6,7,8,9] rfl ?_|refine And.intro ?_ ?_|exact tC|(refine tI ?_;intro hyp)|intro hyp0|omega
  ·have hW:th3 d ⟨k,r,L,x,y,hd,mo,ti,l,more,a⟩=(jcB d a 64,.bad):=if_pos t1
   rw[hW,jbI t1]
   have hV:jcM d a 64=[]:=if_neg t1
   have hU:jcU d a 64=0:=if_neg t1
   have hw:=And.intro (eq_false t1) (And.intro hV hU)
   repeat' first|exact h3 _ ‹_›|exact hr1|exact hr2|exact hr3|exact hr1.1|exact hr1.2.1|exact hr2.1|exact hr3.1|simp only[PB,SA,seval,rdB,jaP,jag,jah,jad,ja6,jbE,tq0,tq1,tq2]|simp only[hw]|refine tT ?_|refine Cos.intro [] [0,1,2,3,4,5,6,7,8,9] rfl ?_|refine And.intro ?_ ?_|exact tC|(refine tI ?_;intro hyp)|intro hyp0|omega
   all_goals rfl
 ·have hT:thG d 4 ⟨k,r,L,x,y,hd,mo,ti,l,more,a⟩=th4 d ⟨k,r,L,x,y,hd,mo,ti,l,more,a⟩:=rfl
  have hP:plX d 4 ⟨k,r,L,x,y,hd,mo,ti,l,more,a⟩=(⟨k,r,L,x,y,hd,0,ti,l,more,a1⟩,varE d a):=by
   simp only[plX,b1,if_neg (show ¬((4:Int)=1) by decide),if_neg (show ¬((4:Int)=2) by decide),if_neg (show ¬((4:Int)=3) by decide)]
  rw[hT,hP]
  by_cases t1:upE d a 2=0
  ·have u1:=jbe t1
   have hW:th4 d ⟨k,r,L,x,y,hd,mo,ti,l,more,a⟩=(0,⟨k,r,L,x,y,hd,varV d a,ti,l,more,a1⟩):=by simp only[th4,b1,t1,ne_eq,not_true_eq_false,not_false_eq_true,if_true,if_false]
   rw[hW,jeZ rfl]
   have hw:=And.intro b1 (And.intro t1 (w_u8 (n:=varV d a) (by omega)))
   repeat' first|exact h3 _ ‹_›|exact hr1|exact hr2|exact hr3|exact hr1.1|exact hr1.2.1|exact hr2.1|exact hr3.1|simp only[PB,SA,seval,rdB,jaP,jag,jah,jad,ja6,jbE,tq0,tq1,tq2]|simp only[hw]|refine tT ?_|refine Cos.intro [] [0,1,2,3,4,5,6,7,8,9] rfl ?_|refine And.intro ?_ ?_|exact tC|(refine tI ?_;intro hyp)|intro hyp0|omega
  ·have hW:th4 d ⟨k,r,L,x,y,hd,mo,ti,l,more,a⟩=(upE d a 2,.bad):=if_pos t1
   rw[hW,jbI t1]
   have hw:=And.intro b1 (eq_false t1)
   repeat' first|exact h3 _ ‹_›|exact hr1|exact hr2|exact hr3|exact hr1.1|exact hr1.2.1|exact hr2.1|exact hr3.1|simp only[PB,SA,seval,rdB,jaP,jag,jah,jad,ja6,jbE,tq0,tq1,tq2]|simp only[hw]|refine tT ?_|refine Cos.intro [] [0,1,2,3,4,5,6,7,8,9] rfl ?_|refine And.intro ?_ ?_|exact tC|(refine tI ?_;intro hyp)|intro hyp0|omega
   all_goals rfl)
end
end Go.Proofs.YtcfkfgkndncanaaGreatDoor
