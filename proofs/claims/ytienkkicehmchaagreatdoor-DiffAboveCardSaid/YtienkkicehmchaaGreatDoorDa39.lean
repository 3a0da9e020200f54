/- Texts of this claim, merged by a program of this claim: FLawD. -/
import Derived.Test.YtienkkicehmchaaGreatDoorDa30
import Derived.Test.YtienkkicehmchaaGreatDoorDa38
namespace Go.Proofs.YtienkkicehmchaaGreatDoor
set_option linter.unusedVariables false
set_option linter.unusedSimpArgs false
section
open Go.RowKit
set_option maxRecDepth 100000
set_option maxHeartbeats 4000000
def jlt (v:Int):Nat:=if v=3 then 63 else if v=2 then 51 else if v=1 then 17 else 0
abbrev jhp (k:Int) (r:Int) (L:List CD) (x:Int) (y:Int) (hd:Bool) (mo:Int) (ti:ByteArray) (l:List ByteArray):List CV:=[.agg [.int .i64 k,.int .i64 r,.vec .cell L,.int .i64 x,.int .i64 y,.bool hd,.int .u8 mo,.str ti,.vec .str l]]
abbrev jhq (k:Int) (r:Int) (L:List CD) (x:Int) (y:Int) (hd:Bool) (mo:Int) (ti:ByteArray) (l:List ByteArray):Prop×Res:=(True,.ret (.bool (decide (3000<(L.length:Int)) || decide (1000<(ti.size:Int)) || decide (1000<(l.length:Int)))))
noncomputable def sp_great19:Spec:=spOf (α:=Int×Int×(List CD)×Int×Int×Bool×Int×ByteArray×(List ByteArray)) (fun⟨k,r,L,x,y,hd,mo,ti,l⟩=>jhp k r L x y hd mo ti l) fun⟨k,r,L,x,y,hd,mo,ti,l⟩=>jhq k r L x y hd mo ti l
theorem jeP (k:Int) (r:Int) (L:List CD) (x:Int) (y:Int) (hd:Bool) (mo:Int) (ti:ByteArray) (l:List ByteArray):sp_great19 (jhp k r L x y hd mo ti l)=some (jhq k r L x y hd mo ti l):=jad _ injS (k,r,L,x,y,hd,mo,ti,l)
theorem jne:Alias Tryz.prog E1 8 sp_great19:=Alias.of fun⟨k,r,L,x,y,hd,mo,ti,l⟩ hG=>TF.intro (V:=(VV1 [] GOk.nil 19 0)) jhm rfl rfl (by
 dsimp only[jhp,jhq]at hG ⊢
 repeat' first|simp only[SA,seval,rdB,ja2,jax]|refine tT ?_|refine Cos.intro [] [] rfl ?_|refine And.intro ?_ ?_|exact tC|(refine tI ?_;intro hyp)|intro hyp0|omega)
theorem jnf:Fresh Tryz.prog E1 8 sp_great19:=Alias.fresh jne (fun x=>rfl)
abbrev jpO (v:Int):List CV:=[.int .i64 v]
abbrev jpP (v:Int):Prop×Res:=(True,.ret (.int .u32 (jlt v)))
noncomputable def sp_ceil:Spec:=spOf (α:=Int) (fun v=>jpO v) fun v=>jpP v
theorem jh4 (v:Int):sp_ceil (jpO v)=some (jpP v):=jad _ injS v
theorem jtf:Alias Tryz.prog E1 22 sp_ceil:=Alias.of fun v hG=>TF.intro (V:=(VV1 [] GOk.nil 18 0)) jdL rfl rfl (by
 dsimp only[jpO,jpP]at hG ⊢
 repeat' first|simp only[SA,seval,rdB,ja2,jax]|refine tT ?_|refine Cos.intro [] [] rfl ?_|refine And.intro ?_ ?_|exact tC|(refine tI ?_;intro hyp)|intro hyp0|omega
 all_goals
  unfold jlt
  simp_all)
theorem jtg:Fresh Tryz.prog E1 22 sp_ceil:=Alias.fresh jtf (fun x=>rfl)
theorem jpQ {c:Int}(f:Int) (h:U32 c):U32 (Col.fit c f):=by
 unfold Col.fit
 have a:=fun h=>Col.to256_bd (c:=c) h
 have b:=fun h=>Col.to16_bd (c:=c) h
 have a2:¬(16777216≤c∧ja3 c=true)→Col.to256 c=c:=fun q=>if_neg q
 have b2:¬(16<c∧ja3 c=true)→Col.to16 c=c:=fun q=>if_neg q
 by_cases q1:16777216≤c∧ja3 c=true
 ·have:=a q1
  have:=b ⟨by omega,q1.2⟩
  (repeat' split)<;>omega
 ·have:=a2 q1
  by_cases q2:16<c∧ja3 c=true
  ·have:=b q2
   (repeat' split)<;>omega
  ·have:=b2 q2
   (repeat' split)<;>omega
theorem jub {c:CD}(f:Int) (h:CWf c):CWf (fitC f c):=by
 refine⟨?_,?_,jpQ f h.fg,jpQ f h.bg,h.attrs,?_⟩<;>unfold fitC<;>dsimp only
 ·have:=h.rune
  (repeat' split)<;>omega
 ·have:=h.wide
  split<;>omega
 ·have:=h.link
  split<;>omega
theorem jth {k r:Int}{L:List CD}{x y mo:Int}{ti:ByteArray}{l:List ByteArray}(h:jm5 k r L x y mo ti l=true):fits2 k r L x y mo ti l=true:=by
 unfold jm5 at h
 unfold fits2
 simp only[Bool.and_eq_true,Bool.not_eq_true',List.any_eq_false]at h ⊢
 refine⟨h.1.1,fun c hc q=>h.2 c hc ?_⟩
 simp only[bad1,bad2]at q ⊢
 simp[q]
theorem jti {k r:Int}{L:List CD}{x y mo:Int}{ti:ByteArray}{l:List ByteArray}(h:fits2 k r L x y mo ti l=true):ja9 k r L x y mo ti l=true:=by
 unfold fits2 at h
 simp only[Bool.and_eq_true]at h
 exact h.1.1
theorem jlu {k r:Int}{L:List CD}(h:jb9 k r L=true):∀c∈L,mayB c=true:=fun c hc=>by
 obtain⟨p,hp,rfl⟩:=List.mem_iff_getElem.1 hc
 unfold jb9 at h
 simp only[Bool.and_eq_true,beq_iff_eq,List.all_eq_true,List.mem_range]at h
 obtain⟨⟨h1,h2⟩,h3⟩:=h
 have hf:=jqP.1 h1
 obtain⟨n,rfl⟩:∃n:Nat,k=n:=⟨k.toNat,by omega⟩
 obtain⟨m,rfl⟩:∃n:Nat,r=n:=⟨r.toNat,by omega⟩
 have hn:0<n:=by omega
 rw[←Int.natCast_mul]at h2
 have hL:L.length=n*m:=by omega
 simp only[Int.toNat_natCast]at h3
 have hy:p / n<m:=Nat.div_lt_of_lt_mul (by omega)
 have hx:p % n<n:=Nat.mod_lt p hn
 have hrow:=h3 _ hy
 have hlen:=jgT hL hy
 unfold jbG at hrow
 simp only[Bool.and_eq_true,List.all_eq_true,List.mem_range,hlen]at hrow
 have:=((jcA _ _).1 (hrow.1.2 _ hx)).1
 have e:cAt (jbH L n (p / n)) (p % n)=L[p]:=by
  have hd:p / n*n+p % n=p:=by rw[Nat.mul_comm];exact Nat.div_add_mod p n
  simp[cAt,jbH,hx,hd,hp]
 rwa [e]at this
theorem jpR {v f k r:Int}{L:List CD}{x y mo:Int}{ti:ByteArray}{l:List ByteArray}(hv:1≤v∧v≤3) (h:ja9 k r L x y mo ti l=true) :
  ∀f',f'=((f.toNat &&& jlt v:Nat):Int)→jhw v k r (L.map (fitC f')) x y (if hasB f' 32=true then mo else 0) (if hasB f' 16=true then ti else bs []) (if hasB f' 8=true then l else [])=true:=fun f' hf=>by
 have hr:=jpo (f:=f') h
 have hg:jb9 k r L=true:=by
  unfold ja9 at h
  simp only[Bool.and_eq_true]at h
  exact h.1.1.1.1.1.1.1.1
 have hc:=jlu hg
 have hb:∀b,jlt v &&& b=0→hasB f' b=false:=fun b q=>by rw[hf];exact jsW f _ b q
 have hm:∀p:CD→Bool,(∀c,mayB c=true→p (fitC f' c)=false)→((L.map (fitC f')).any p)=false:=fun p q=>by
  rw[List.any_eq_false]
  intro c hcm
  obtain⟨d,hd,rfl⟩:=List.mem_map.1 hcm
  simp[q d (hc d hd)]
 rcases (show v=1∨v=2∨v=3 by omega)with rfl|rfl|rfl
 ·have b2:=hb 2 (by decide)
  have b4:=hb 4 (by decide)
  have b8:=hb 8 (by decide)
  have b32:=hb 32 (by decide)
  simp only[b8,b32,Bool.false_eq_true,if_false]at hr
  simp only[jhw,jm5,b8,b32,if_true,Bool.false_eq_true,if_false,hr,decide_true,Bool.and_self,Bool.true_and,Bool.not_eq_true']
  refine hm _ fun c hm=>?_
  unfold mayB penB at hm
  simp only[Bool.and_eq_true]at hm
  have c1:=(Col.fit_may f' hm.1.1).2 b2
  have c2:=(Col.fit_may f' hm.1.2).2 b2
  have c1':(Col.fit c.fg f'≤256):=c1
  simp only[bad1,fitC,b4,Bool.false_eq_true,if_false]
  simp only[CD.pen]at c1 c2
  simp
  omega
 ·have b4:=hb 4 (by decide)
  have b8:=hb 8 (by decide)
  simp only[b8,Bool.false_eq_true,if_false]at hr
  have e2:jhw 2=fits2:=by funext;rfl
  simp only[e2,fits2,b8,Bool.false_eq_true,if_false,hr,decide_true,Bool.and_self,Bool.true_and,Bool.not_eq_true']
  refine hm _ fun c hm=>?_
  simp[bad2,fitC,b4]
 ·exact hr
abbrev jpS (k:Int) (r:Int) (L:List CD) (x:Int) (y:Int) (hd:Bool) (mo:Int) (ti:ByteArray) (l:List ByteArray) (v:Int) (f:Int):List CV:=[.agg [.int .i64 k,.int .i64 r,.vec .cell L,.int .i64 x,.int .i64 y,.bool hd,.int .u8 mo,.str ti,.vec .str l],.int .i64 v,.int .u32 f]
abbrev jpT (k:Int) (r:Int) (L:List CD) (x:Int) (y:Int) (hd:Bool) (mo:Int) (ti:ByteArray) (l:List ByteArray) (v:Int) (f:Int):Prop×Res:=(((∀c∈L,CWf c)∧SLen ti∧(∀s∈l,SLen s)∧0≤mo)∧(-9223372036854775808≤v∧v≤9223372036854775807)∧U32 f,.ret (.bool true))
noncomputable def sp_lawD:Spec:=spOf (α:=Int×Int×(List CD)×Int×Int×Bool×Int×ByteArray×(List ByteArray)×Int×Int) (fun⟨k,r,L,x,y,hd,mo,ti,l,v,f⟩=>jpS k r L x y hd mo ti l v f) fun⟨k,r,L,x,y,hd,mo,ti,l,v,f⟩=>jpT k r L x y hd mo ti l v f
theorem jng (k:Int) (r:Int) (L:List CD) (x:Int) (y:Int) (hd:Bool) (mo:Int) (ti:ByteArray) (l:List ByteArray) (v:Int) (f:Int):sp_lawD (jpS k r L x y hd mo ti l v f)=some (jpT k r L x y hd mo ti l v f):=jad _ injS (k,r,L,x,y,hd,mo,ti,l,v,f)
theorem jtj:Alias Tryz.prog E1 7 sp_lawD:=Alias.of fun⟨k,r,L,x,y,hd,mo,ti,l,v,f⟩ hG=>TF.intro (V:=(VV1 [(8,conF [.agg [.any,.any,.sl .cell,.any,.any,.any,.any,.any,.sl .str]] sp_great19),(9,conF [] sp_fixed19),(15,conF [.any,.agg [.any,.any,.sl .cell,.any,.any,.any,.any,.any,.sl .str]] sp_dfits),(20,conF [.agg [.any,.any,.sl .cell,.any,.any,.any,.any,.any,.sl .str]] sp_r12right),(22,conF [.any] sp_ceil),(21,conA [.agg [.any,.any,.sl .cell,.any,.any,.any,.any,.any,.sl .str],.any] sp_pscreen)] (.cons (jaa jhm) (Fresh.soundF jnf) (.cons (jaa jhn) (upS (Fresh.soundF jnd)) (.cons (jaa jec) (upS (Fresh.soundF jq4)) (.cons (jaa jg2) (upS (Fresh.soundF jk5)) (.cons (jaa jdL) (Fresh.soundF jtg) (.cons (jaa jc1) (Alias.soundA jm6) GOk.nil)))))) 49 0)) jho rfl rfl (by
 dsimp only[jpS,jpT]at hG ⊢
 obtain⟨⟨hwf,ht,hsl,hmo⟩,hv64,hf⟩:=hG
 have n1:f.toNat &&& jlt v≤f.toNat:=Nat.and_le_left
 by_cases hv:1≤v∧v≤3
 ·have hce:jlt v≤63:=by
   unfold jlt
   (repeat' split)<;>omega
  have hp:=fun h=>jpR (f:=f) (k:=k) (r:=r) (L:=L) (x:=x) (y:=y) (mo:=mo) (ti:=ti) (l:=l) hv h _ rfl
  repeat' first|exact⟨hwf,by omega,by omega,hsl⟩|exact ht|exact hf|simp only[SA,seval,rdB,jeP,jeO,jg5,jdM,jh4,jeJ,ja2,jax]|refine tT ?_|refine Cos.intro [] [] rfl ?_|refine And.intro ?_ ?_|exact tC|(refine tI ?_;intro hyp)|intro hyp0|omega
  ·obtain⟨⟨q1,q2⟩,q3⟩:=hyp
   rcases (show v=1∨v=2 by omega)with rfl|rfl
   ·rw[show jhw (1+1) k r L x y mo ti l=true from jth q1]at q3
    cases q3
   ·rw[show jhw (2+1) k r L x y mo ti l=true from jti q1]at q3
    cases q3
  ·refine⟨fun c hc=>?_,by rw[List.length_map];omega,?_,fun s hs=>?_⟩
   ·obtain⟨d,hd,rfl⟩:=List.mem_map.1 hc
    exact jub _ (hwf d hd)
   ·split
    ·omega
    ·simp
   ·split at hs
    ·exact hsl s hs
    ·cases hs
  ·split
   ·exact ht
   ·decide
  ·exact hp hyp
 ·repeat' first|exact⟨hwf,by omega,by omega,hsl⟩|exact ht|exact hf|simp only[SA,seval,rdB,jeP,jeO,jg5,jdM,jh4,jeJ,ja2,jax]|refine tT ?_|refine Cos.intro [] [] rfl ?_|refine And.intro ?_ ?_|exact tC|(refine tI ?_;intro hyp)|intro hyp0|omega)
end
end Go.Proofs.YtienkkicehmchaaGreatDoor
