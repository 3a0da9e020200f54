/- Texts of this claim, merged by a program of this claim: FCol. -/
import Derived.Test.YtienkkicehmchaaGreatDoorDa13
import Derived.Test.YtienkkicehmchaaGreatDoorDa14
namespace Go.Proofs.YtienkkicehmchaaGreatDoor
set_option linter.unusedVariables false
set_option linter.unusedSimpArgs false
section
open Go.RowKit
set_option maxRecDepth 100000
set_option maxHeartbeats 4000000
abbrev U32 (c:Int):Prop:=0≤c∧c<4294967296
theorem je7 (l:List Int) (f:Int→CV){o:Nat}(h:o<l.length):List.drop o (l.map f)=f (l.getD o 0)::List.drop (o+1) (l.map f):=by
 rw[List.drop_eq_getElem_cons (by simpa using h)]
 simp[h]
theorem jtW (n:Nat):n &&& 255=n % 256:=Nat.and_two_pow_sub_one_eq_mod n 8
abbrev jiC (c:Int):List CV:=[.int .u32 c]
abbrev jiD (c:Int):Prop×Res:=(U32 c,.ret (.tup [.int .i64 (Col.part 0 c),.int .i64 (Col.part 1 c),.int .i64 (Col.part 2 c),.bool (Col.ok c)]))
noncomputable def sp_cparts:Spec:=spOf (α:=Int) (fun c=>jiC c) fun c=>jiD c
theorem jjT (c:Int):sp_cparts (jiC c)=some (jiD c):=jad _ injS c
theorem jor:Alias Tryz.prog E1 202 sp_cparts:=Alias.of fun c hG=>TF.intro (V:=(VV1 [(158,conF [.any] sp_color)] (.cons (jaa jaF) (upS (Fresh.soundF jfY)) GOk.nil) 77 0)) jex rfl rfl (by
 dsimp only[jiC,jiD]at hG ⊢
 obtain⟨h0,h1⟩:=hG
 have b1:(16:Int)≤IntKind.u32.bits:=by decide
 have b2:(8:Int)≤IntKind.u32.bits:=by decide
 by_cases hok:Col.ok c=true
 ·have hc:=(Col.ok_iff c).1 hok
  have hcol:ja3 c=true:=(Col.color_iff c).2 hc.2
  have hn:¬(Col.ok c=false):=by simp[hok]
  by_cases q1:16777216≤c
  ·have hw:=jtW
   have hw2:=hcol
   have hw3:(c=0)=False:=eq_false hc.1
   repeat' first|exact b1|exact b2|simp only[SA,seval,rdB,jau,ja2,jax]|simp only[hw]|simp only[hw2]|simp only[hw3]|simp only[hw4]|simp only[hw5]|refine tT ?_|refine Cos.intro [] [] rfl ?_|refine And.intro ?_ ?_|exact tC|(refine tI ?_;intro hyp)|intro hyp0|omega
   all_goals simp only[SA,seval,rdB,jau,ja2,jax,Col.part,hok,q1,if_neg hn,if_true]
   all_goals (simp;omega)
  by_cases q2:c≤16
  ·have hw:=je7 firstI (CV.int .u8) (o:=(c-1).toNat*3) (by show _<48;omega)
   have hw2:=je7 firstI (CV.int .u8) (o:=(c-1).toNat*3+1) (by show _<48;omega)
   have hw3:=je7 firstI (CV.int .u8) (o:=(c-1).toNat*3+2) (by show _<48;omega)
   have g1:=fun i=>(⟨by have:=Col.first_bd i;omega,by have:=Col.first_bd i;omega⟩:-9223372036854775808≤firstI.getD i 0∧firstI.getD i 0≤9223372036854775807)
   have hw4:=hcol
   have hw5:(c=0)=False:=eq_false hc.1
   repeat' first|exact (g1 _).1|exact (g1 _).2|simp only[SA,seval,rdB,jau,ja2,jax]|simp only[hw]|simp only[hw2]|simp only[hw3]|simp only[hw4]|simp only[hw5]|refine tT ?_|refine Cos.intro [] [] rfl ?_|simp only[jqy,firstT]|refine And.intro ?_ ?_|exact tC|(refine tI ?_;intro hyp)|intro hyp0|omega
   all_goals simp only[SA,seval,rdB,jau,ja2,jax,Col.part,hok,q1,q2,if_neg hn,if_true,if_false,Nat.add_zero]
  by_cases q3:c≤232
  ·have hw:=je7 levelsI (CV.int .i64) (o:=((c-1-16) / 36).toNat*1) (by show _<6;omega)
   have hw2:=je7 levelsI (CV.int .i64) (o:=((c-1-16) / 6 % 6).toNat*1) (by show _<6;omega)
   have hw3:=je7 levelsI (CV.int .i64) (o:=((c-1-16) % 6).toNat*1) (by show _<6;omega)
   have hw4:=hcol
   have hw5:(c=0)=False:=eq_false hc.1
   repeat' first|simp only[SA,seval,rdB,jau,ja2,jax]|simp only[hw]|simp only[hw2]|simp only[hw3]|simp only[hw4]|simp only[hw5]|refine tT ?_|refine Cos.intro [] [] rfl ?_|simp only[jnY,levelsT]|refine And.intro ?_ ?_|exact tC|(refine tI ?_;intro hyp)|intro hyp0|omega
   all_goals simp only[SA,seval,rdB,jau,ja2,jax,Col.part,Col.lev,hok,q1,q2,q3,if_neg hn,if_true,if_false]
   all_goals rw[show c-1-16=c-17 by omega,Nat.mul_one]
  ·have hw:=hcol
   have hw2:(c=0)=False:=eq_false hc.1
   repeat' first|simp only[SA,seval,rdB,jau,ja2,jax]|simp only[hw]|simp only[hw2]|simp only[hw3]|simp only[hw4]|simp only[hw5]|refine tT ?_|refine Cos.intro [] [] rfl ?_|refine And.intro ?_ ?_|exact tC|(refine tI ?_;intro hyp)|intro hyp0|omega
   all_goals simp only[SA,seval,rdB,jau,ja2,jax,Col.part,hok,q1,q2,q3,if_neg hn,if_false]
   all_goals (simp;omega)
 ·have hf:Col.ok c=false:=by simpa using hok
  have hz:∀k,Col.part k c=0:=fun k=>if_pos hf
  have hw:=hz
  by_cases h:c=0
  ·subst h
   repeat' first|simp only[SA,seval,rdB,jau,ja2,jax]|simp only[hw]|simp only[hw2]|simp only[hw3]|simp only[hw4]|simp only[hw5]|refine tT ?_|refine Cos.intro [] [] rfl ?_|refine And.intro ?_ ?_|exact tC|(refine tI ?_;intro hyp)|intro hyp0|omega
   exact hf.symm
  ·have hcn:ja3 c=false:=by simpa[Col.ok,h] using hf
   have hw2:=hcn
   have hw3:(c=0)=False:=eq_false h
   repeat' first|simp only[SA,seval,rdB,jau,ja2,jax]|simp only[hw]|simp only[hw2]|simp only[hw3]|simp only[hw4]|simp only[hw5]|refine tT ?_|refine Cos.intro [] [] rfl ?_|refine And.intro ?_ ?_|exact tC|(refine tI ?_;intro hyp)|intro hyp0|omega
   exact hf.symm)
theorem jos:Fresh Tryz.prog E1 202 sp_cparts:=Alias.fresh jor (fun x=>rfl)
abbrev jot (x:Int) (y:Int):List CV:=[.int .u32 x,.int .u32 y]
abbrev jou (x:Int) (y:Int):Prop×Res:=(U32 x∧U32 y,.ret (.int .i64 (Col.far x y)))
noncomputable def sp_cfar:Spec:=spOf (α:=Int×Int) (fun⟨x,y⟩=>jot x y) fun⟨x,y⟩=>jou x y
theorem jbT (x:Int) (y:Int):sp_cfar (jot x y)=some (jou x y):=jad _ injS (x,y)
theorem jsy:Alias Tryz.prog E1 188 sp_cfar:=Alias.of fun⟨x,y⟩ hG=>TF.intro (V:=(VV1 [(202,conF [.any] sp_cparts)] (.cons (jaa jex) (Fresh.soundF jos) GOk.nil) 56 0)) jgM rfl rfl (by
 dsimp only[jot,jou]at hG ⊢
 obtain⟨⟨x0,x1⟩,⟨y0,y1⟩⟩:=hG
 have b1:=fun k=>Col.part_bd k x x0
 have b2:=fun k=>Col.part_bd k y y0
 have s1:=fun k=>Col.sq_le (x:=Col.part k x-Col.part k y) (by have:=b1 k;have:=b2 k;omega) (by have:=b1 k;have:=b2 k;omega)
 have s2:=fun k=>Col.sq_nonneg (Col.part k x-Col.part k y)
 unfold Col.sq at s1 s2
 have p0:=s1 0
 have p1:=s1 1
 have p2:=s1 2
 have q0:=s2 0
 have q1:=s2 1
 have q2:=s2 2
 have a0:=b1 0
 have a1:=b1 1
 have a2:=b1 2
 have c0:=b2 0
 have c1:=b2 1
 have c2:=b2 2
 clear s1 s2 b1 b2
 generalize hm0:(Col.part 0 x-Col.part 0 y)*(Col.part 0 x-Col.part 0 y)=m0 at *
 generalize hm1:(Col.part 1 x-Col.part 1 y)*(Col.part 1 x-Col.part 1 y)=m1 at *
 generalize hm2:(Col.part 2 x-Col.part 2 y)*(Col.part 2 x-Col.part 2 y)=m2 at *
 have hw:=hm0
 have hw2:=hm1
 have hw3:=hm2
 repeat' first|simp only[SA,seval,rdB,jjT,ja2,jax]|simp only[hw]|simp only[hw2]|simp only[hw3]|refine tT ?_|refine Cos.intro [] [] rfl ?_|refine And.intro ?_ ?_|exact tC|(refine tI ?_;intro hyp)|intro hyp0|omega
 ·simp only[Col.far]
  rw[if_neg (by simp;exact fun h=>by simpa[h] using hyp)]
 ·simp only[Col.far,Col.sq,hyp.1,hyp.2,hm0,hm1,hm2]
  rfl)
theorem jsz:Fresh Tryz.prog E1 188 sp_cfar:=Alias.fresh jsy (fun x=>rfl)
abbrev jl1:FuncId:=187
abbrev jkV (c:Int) (a:Int) (b:Int):List CV:=[.int .i64 a,.int .i64 b,.ptr 0 0 0]
abbrev jkW (c:Int) (a:Int) (b:Int):KH:=[.box [.int .u32 c]]
abbrev jkX (c:Int) (a:Int) (b:Int):Prop×Res×KH:=(U32 c∧(0≤a∧a≤b∧b≤1000),.ret (.int .u32 (Col.near c a (b-a+1).toNat).1),[.box [.int .u32 c]])
noncomputable def msp_cnear:MSpec:=jjJ (α:=Int×Int×Int) (fun⟨c,a,b⟩=>(jkV c a b,jkW c a b)) fun⟨c,a,b⟩=>jkX c a b
theorem jfG (c:Int) (a:Int) (b:Int):msp_cnear (jkV c a b) (jkW c a b)=some (jkX c a b):=jlT _ injM (c,a,b)
theorem jl2:MutF Tryz.prog E1 187 msp_cnear:=MutF.of fun⟨c,a,b⟩ hG=>TF.intro (V:=(VV1 [(188,conF [.any,.any] sp_cfar)] (.cons (jaa jgM) (Fresh.soundF jsz) GOk.nil) 37 1)) jbp rfl rfl (by
 dsimp only[jkV,jkW,jkX]at hG ⊢
 obtain⟨hc,h0,h1,h2⟩:=hG
 repeat' first|simp only[SA,MB,seval,rdB,jbT,ja2,jax]|simp only[hw]|refine tT ?_|refine And.intro ?_ ?_|exact tC|(refine tI ?_;intro hyp)|intro hyp0|omega
 refine T.loop (fun k:Nat=>⟨[(0,.int .i64 a),(2,.ptr 0 0 0),(6,.int .u32 (Col.near c a k).1),(7,.int .i64 (Col.near c a k).2),(14,.int .i64 (b-a+1)),(15,.int .i64 k)],[.box [.int .u32 c]]⟩) (fun k=>(k:Int)≤b-a+1) (fun k=>(b-a+1).toNat-k) 0 (by omega) (Cos.intro [0] [] rfl (by (simp only[SA,MB,seval,rdB,jbT,ja2,jax]<;>exact tE))) (fun k hk=>?_)
 have b1:=Col.near_bd c a h0 k
 have b2:=Col.near_far c a h0 hc.1 k
 have hw:IntKind.u32.wrap (a+(k:Int)+1)=a+k+1:=juk (by omega)
 have b3:=Col.far_bd c (a+k+1) hc.1 (by omega)
 repeat' first|exact hc|simp only[SA,MB,seval,rdB,jbT,ja2,jax]|simp only[hw]|refine tT ?_|refine And.intro ?_ ?_|exact tC|(refine tI ?_;intro hyp)|intro hyp0|omega
 ·have e:Col.near c a (k+1)=(a+k+1,Col.far c (a+k+1)):=if_pos hyp
  exact⟨k+1,by omega,by omega,Cos.intro [0] [] rfl (by rw[e];(simp only[SA,MB,seval,rdB,jbT,ja2,jax]<;>exact tE))⟩
 ·have e:Col.near c a (k+1)=Col.near c a k:=if_neg (fun q=>q.elim hyp.1 hyp.2)
  exact⟨k+1,by omega,by omega,Cos.intro [0] [] rfl (by rw[e];(simp only[SA,MB,seval,rdB,jbT,ja2,jax]<;>exact tE))⟩
 ·rw[show (b-a+1).toNat=k by omega]
  exact Cos.intro [0] [] rfl (by (simp only[SA,MB,seval,rdB,jbT,ja2,jax]<;>exact tE)))
abbrev je8 (c:Int):List CV:=[.int .u32 c]
abbrev je9 (c:Int):KH:=[]
abbrev jfa (c:Int):Prop×Res×KH:=(U32 c,.ret (.fn jl1 [.ptr 0 0 0]),[.box [.int .u32 c]])
noncomputable def msp_cnearest:MSpec:=jjJ (α:=Int) (fun c=>(je8 c,je9 c)) fun c=>jfa c
theorem jdg (c:Int):msp_cnearest (je8 c) (je9 c)=some (jfa c):=jlT _ injM c
theorem jgO:MutF Tryz.prog E1 159 msp_cnearest:=MutF.of fun c hG=>TF.intro (V:=(VV1 [] GOk.nil 4 0)) jb7 rfl rfl (by
 dsimp only[je8,je9,jfa]at hG ⊢
 repeat' first|simp only[SA,MB,seval,rdB,ja2,jax]|refine tT ?_|refine And.intro ?_ ?_|exact tC|(refine tI ?_;intro hyp)|intro hyp0|omega
 exact Cos.intro [0] [] rfl (by (simp only[SA,MB,seval,rdB,ja2,jax]<;>exact tE)))
abbrev jov (c:Int):List CV:=[.int .u32 c]
abbrev jow (c:Int):Prop×Res:=(U32 c,.ret (.int .u32 (Col.to256 c)))
noncomputable def sp_c256:Spec:=spOf (α:=Int) (fun c=>jov c) fun c=>jow c
theorem jmN (c:Int):sp_c256 (jov c)=some (jow c):=jad _ injS c
theorem jsA : Alias Tryz.prog E1 130 sp_c256 := Alias.of fun c hG => TF.intro (V := (VV1 [(158, conF [.any] sp_color), (159, conM msp_cnearest), (187, conM msp_cnear)] (.cons (jaa jaF) (upS (Fresh.soundF jfY)) (.cons (jaa jb7) (MutF.soundM jgO) (.cons (jaa jbp) (MutF.soundM jl2) GOk.nil))) 14 0)) jey rfl rfl (by
  dsimp only [jov, jow] at hG ⊢
  repeat' first | exact hG | simp only [SA, MB, seval, rdB, jau, jdg, jfG, ja2, jax, jl1] | refine tT ?_ | refine Cos.intro [] [] rfl ?_ | refine And.intro ?_ ?_ | exact tC | (refine tI ?_; intro hyp) | intro hyp0 | omega
  · exact (if_neg (fun q => by rcases hyp with h | h
                               · omega
                               · rw [h] at q; cases q.2)).symm
  · exact (congrArg Prod.fst rfl).trans (if_pos ⟨by omega, hyp.2⟩).symm)
theorem jsB:Fresh Tryz.prog E1 130 sp_c256:=Alias.fresh jsA (fun x=>rfl)
abbrev jsC (c:Int):List CV:=[.int .u32 c]
abbrev jsD (c:Int):Prop×Res:=(U32 c,.ret (.int .u32 (Col.to16 c)))
noncomputable def sp_c16:Spec:=spOf (α:=Int) (fun c=>jsC c) fun c=>jsD c
theorem jox (c:Int):sp_c16 (jsC c)=some (jsD c):=jad _ injS c
theorem jtX : Alias Tryz.prog E1 131 sp_c16 := Alias.of fun c hG => TF.intro (V := (VV1 [(158, conF [.any] sp_color), (159, conM msp_cnearest), (187, conM msp_cnear)] (.cons (jaa jaF) (upS (Fresh.soundF jfY)) (.cons (jaa jb7) (MutF.soundM jgO) (.cons (jaa jbp) (MutF.soundM jl2) GOk.nil))) 14 0)) jfF rfl rfl (by
  dsimp only [jsC, jsD] at hG ⊢
  repeat' first | exact hG | simp only [SA, MB, seval, rdB, jau, jdg, jfG, ja2, jax, jl1] | refine tT ?_ | refine Cos.intro [] [] rfl ?_ | refine And.intro ?_ ?_ | exact tC | (refine tI ?_; intro hyp) | intro hyp0 | omega
  · exact (if_neg (fun q => by rcases hyp with h | h
                               · omega
                               · rw [h] at q; cases q.2)).symm
  · exact (congrArg Prod.fst rfl).trans (if_pos ⟨by omega, hyp.2⟩).symm)
theorem jtY:Fresh Tryz.prog E1 131 sp_c16:=Alias.fresh jtX (fun x=>rfl)
abbrev joy (c:Int) (f:Int):List CV:=[.int .u32 c,.int .u32 f]
abbrev joz (c:Int) (f:Int):Prop×Res:=(U32 c∧U32 f,.ret (.int .u32 (Col.fit c f)))
noncomputable def sp_cfit:Spec:=spOf (α:=Int×Int) (fun⟨c,f⟩=>joy c f) fun⟨c,f⟩=>joz c f
theorem jmO (c:Int) (f:Int):sp_cfit (joy c f)=some (joz c f):=jad _ injS (c,f)
theorem jsE:Alias Tryz.prog E1 96 sp_cfit:=Alias.of fun⟨c,f⟩ hG=>TF.intro (V:=(VV1 [(130,conF [.any] sp_c256),(131,conF [.any] sp_c16)] (.cons (jaa jey) (Fresh.soundF jsB) (.cons (jaa jfF) (Fresh.soundF jtY) GOk.nil)) 31 0)) jgN rfl rfl (by
 dsimp only[joy,joz]at hG ⊢
 obtain⟨hc,hf⟩:=hG
 have n1:f.toNat &&& 1≤f.toNat:=Nat.and_le_left
 have n2:f.toNat &&& 2≤f.toNat:=Nat.and_le_left
 repeat' first|exact hc|simp only[SA,seval,rdB,jmN,jox,ja2,jax,jl1]|refine tT ?_|refine Cos.intro [] [] rfl ?_|refine And.intro ?_ ?_|exact tC|(refine tI ?_;intro hyp)|intro hyp0|omega
 all_goals
  simp only[Col.fit,hasB,decide_eq_true_eq]
  grind)
theorem jsF:Fresh Tryz.prog E1 96 sp_cfit:=Alias.fresh jsE (fun x=>rfl)
end
end Go.Proofs.YtienkkicehmchaaGreatDoor
