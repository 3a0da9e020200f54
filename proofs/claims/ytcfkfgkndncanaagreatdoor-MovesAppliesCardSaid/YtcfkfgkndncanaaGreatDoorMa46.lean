/- Texts of this claim, merged by a program of this claim: FRapply2. -/
import Derived.Test.YtcfkfgkndncanaaGreatDoorMa44
import Derived.Test.YtcfkfgkndncanaaGreatDoorMa45
namespace Go.Proofs.YtcfkfgkndncanaaGreatDoor
set_option linter.unusedVariables false
set_option linter.unusedSimpArgs false
section
open Go.RowKit
set_option maxRecDepth 100000
set_option maxHeartbeats 4000000
theorem jys {L:List CD}{k r:Nat}(f:CD→CD) (hL:L.length=k*r):((jbv L k r).map fun a=>a.map f).flatten=L.map f:=by
 conv=>rhs;rw[←jiQ hL]
 rw[List.map_flatten]
theorem jsQ {k:Nat}{R:List CD}(hR:R.length=k):∀{M:List (List CD)}{i:Nat},(∀l∈M,l.length=k)→i<M.length→(M.set i R).flatten=jeQ M.flatten (i*k) R
 | [],i,_,hi=>absurd hi (Nat.not_lt_zero _)
 | x::M,0,h,_=>by
  have hx:=h x List.mem_cons_self
  rw[List.set_cons_zero,List.flatten_cons,List.flatten_cons,Nat.zero_mul,jeQ,hR,Nat.zero_add,List.take_zero,List.nil_append,←hx,List.drop_left]
 | x::M,i+1,h,hi=>by
  have hx:=h x List.mem_cons_self
  have ih:=jsQ hR (M:=M) (i:=i) (fun l hl=>h l (List.mem_cons_of_mem _ hl)) (by simpa using hi)
  have e:(i+1)*k=x.length+i*k:=by rw[Nat.succ_mul,hx];omega
  rw[List.set_cons_succ,List.flatten_cons,List.flatten_cons,ih,jeQ,jeQ,e,List.take_length_add_append,Nat.add_assoc,List.drop_length_add_append]
  simp only[List.append_assoc]
theorem jyt {M:List (List CD)}{k r i:Nat}{R:List CD}(h:Rect M k r) (hR:R.length=k):Rect (M.set i R) k r:=⟨by rw[List.length_set,h.len],fun l hl=>by
 rcases List.mem_or_eq_of_mem_set hl with q|q
 ·exact h.row l q
 ·rw[q,hR]⟩
abbrev jjw (k:Int) (r:Int) (L:List CD) (x:Int) (y:Int) (hd:Bool) (mo:Int) (ti:ByteArray) (l:List ByteArray) (links:List ByteArray):List CV:=[.agg [.int .i64 k,.int .i64 r,.vec .cell L,.int .i64 x,.int .i64 y,.bool hd,.int .u8 mo,.str ti,.vec .str l],.vec .str links]
abbrev jjx (k:Int) (r:Int) (L:List CD) (x:Int) (y:Int) (hd:Bool) (mo:Int) (ti:ByteArray) (l:List ByteArray) (links:List ByteArray):Prop×Res:=(((0≤k∧k≤100)∧(0≤r∧r≤100)∧L.length=k.toNat*r.toNat)∧ScrOk L l∧links.length≤60000,.ret (.vec (.rows .cell) ((jbv L k.toNat r.toNat).map fun a=>a.map (ruf l links))))
noncomputable def sp_r8underT:Spec:=spOf (α:=Int×Int×(List CD)×Int×Int×Bool×Int×ByteArray×(List ByteArray)×(List ByteArray)) (fun⟨k,r,L,x,y,hd,mo,ti,l,links⟩=>jjw k r L x y hd mo ti l links) fun⟨k,r,L,x,y,hd,mo,ti,l,links⟩=>jjx k r L x y hd mo ti l links
theorem jbA (k:Int) (r:Int) (L:List CD) (x:Int) (y:Int) (hd:Bool) (mo:Int) (ti:ByteArray) (l:List ByteArray) (links:List ByteArray):sp_r8underT (jjw k r L x y hd mo ti l links)=some (jjx k r L x y hd mo ti l links):=jaq _ injS (k,r,L,x,y,hd,mo,ti,l,links)
theorem jrK:Fresh Tryz.prog E0 71 sp_r8underT:=Fresh.of fun⟨k,r,L,x,y,hd,mo,ti,l,links⟩ hG=>TF.intro (V:=(VV [(72,conT [.sl .cell] sp_rcopy),(108,conF [.sl .str,.any] sp_rleads),(109,conF [.sl .str,.any] sp_rplace)] (.cons (jaa jee) (Fresh.soundT jh0) (.cons (jaa jhv) (Fresh.soundF jpJ) (.cons (jaa jhu) (Fresh.soundF jpC) GOk.nil))) 75 0)) jlW rfl rfl (by
 dsimp only[jjw,jjx]at hG ⊢
 obtain⟨⟨hk,hr,hL⟩,hs,hlk⟩:=hG
 obtain⟨k,rfl⟩:∃n:Nat,k=n:=⟨k.toNat,by omega⟩
 obtain⟨r,rfl⟩:∃n:Nat,r=n:=⟨r.toNat,by omega⟩
 simp only[Int.toNat_natCast]at hL ⊢
 have hkr:k*r≤10000:=Nat.mul_le_mul (show k≤100 by omega) (show r≤100 by omega)
 have hll:=hs.links
 have hsl:=hs.slen
 repeat' first|simp only[SA,seval,rdB,jab,ja5,ja4,tq0,tq1,tq2]|simp only[hw]|simp only[hw2]|simp only[hw3]|refine tT ?_|refine And.intro ?_ ?_|exact tC|(refine tI ?_;intro hyp)|intro hyp0|omega
 refine T.loop (fun y':Nat=>⟨[(1,.vec .str links),(2,.ptr 0 0 0),(5,.slice 1 0 1 y' y'),(6,.int .i64 y')],[.box [.int .i64 k,.int .i64 r,.vec .cell L,.int .i64 x,.int .i64 y,.bool hd,.int .u8 mo,.str ti,.vec .str l],.seq (.rows .cell) ((jbv L k y').map fun a=>a.map (ruf l links))]⟩) (fun y'=>y'≤r) (fun y'=>r-y') 0 (by omega) (Cos.intro [0,1] [] rfl (by simp only[SA,seval,rdB,jab,ja5,ja4,tq0,tq1,tq2];simp[jbv])) (fun y' hy=>?_)
 have hml:((jbv L k y').map fun a=>a.map (ruf l links)).length=y':=by rw[List.length_map,jcC]
 by_cases hyr:y'<r
 ·have hrow:(y'+1)*k≤L.length:=by
   rw[hL,Nat.mul_comm k r]
   exact Nat.mul_le_mul_right k hyr
  have hmf:0≤(y':Int)*k∧(y':Int)*k≤1000000∧(y':Int)*k+k≤L.length:=by
   have:=jew hrow
   omega
  have hw:((y':Int)*k+k).toNat=y'*k+k:=by rw[←tq0,←Int.toNat_add_nat (Int.mul_nonneg (by omega) (by omega))]
  have hw2:List.take k (List.drop (y'*k) L)=jbo L k y':=rfl
  have hrl:(jbo L k y').length=k:=jdM hL hyr
  have hw3:List.take y' ((jbv L k y').map fun a=>a.map (ruf l links))=(jbv L k y').map fun a=>a.map (ruf l links):=List.take_of_length_le (by omega)
  repeat' first|refine T.cut (a:=z104_12) (fun _:Unit=>⟨[(1,.vec .str links),(2,.ptr 0 0 0),(5,.slice 1 0 1 y' y'),(6,.int .i64 y'),(7,.vec .cell ((jbo L k y').map (ruf l links)))],[.box [.int .i64 k,.int .i64 r,.vec .cell L,.int .i64 x,.int .i64 y,.bool hd,.int .u8 mo,.str ti,.vec .str l],.seq (.rows .cell) ((jbv L k y').map fun a=>a.map (ruf l links))]⟩) (fun _=>True) ?_ (fun _ _=>?_)|simp only[SA,seval,rdB,jab,ja5,ja4,tq0,tq1,tq2]|simp only[hw]|simp only[hw2]|simp only[hw3]|refine tT ?_|refine And.intro ?_ ?_|exact tC|(refine tI ?_;intro hyp)|intro hyp0|omega
  ·refine T.loop (fun i:Nat=>⟨[(1,.vec .str links),(2,.ptr 0 0 0),(5,.slice 1 0 1 y' y'),(6,.int .i64 y'),(7,.slice 2 0 6 k k),(34,.int .i64 k),(35,.int .i64 i)],[.box [.int .i64 k,.int .i64 r,.vec .cell L,.int .i64 x,.int .i64 y,.bool hd,.int .u8 mo,.str ti,.vec .str l],.seq (.rows .cell) ((jbv L k y').map fun a=>a.map (ruf l links)),.seq .cell (half (ruf l links) (jbo L k y') i)]⟩) (fun i=>i≤k) (fun i=>k-i) 0 (by omega) (Cos.intro [0,1,2] [] rfl (by rw[jvT];(simp only[SA,seval,rdB,jab,ja5,ja4,tq0,tq1,tq2]<;>exact tE))) (fun i hi=>?_)
   have hhl:=jnK (ruf l links) (jbo L k y') i
   by_cases hik:i<k
   ·have hir:i<(jbo L k y').length:=by omega
    have hst:=jnM (ruf l links) (jcW hir)
    have hw:=jwW (ruf l links) hir
    have hw2:∀a:CD,((half (ruf l links) (jbo L k y') i).set i a).getD i default=a:=fun a=>jdo (by omega)
    have hlk2:=hs.lk _ (jlg (jdN hir))
    have hpl:=jdm links (jbf l ((jbo L k y').getD i default).link)
    have hw3:IntKind.u16.wrap (jbd links (jbf l ((jbo L k y').getD i default).link)+1)=jbd links (jbf l ((jbo L k y').getD i default).link)+1:=jnc (by omega)
    repeat' first|exact hsl|simp only[SA,seval,rdB,jab,ja5,ja4,tq0,tq1,tq2]|simp only[hw]|simp only[hw2]|simp only[hw3]|refine tT ?_|refine And.intro ?_ ?_|exact tC|(refine tI ?_;intro hyp)|intro hyp0|omega
    ·have hu:ruf l links ((jbo L k y').getD i default)={ (jbo L k y').getD i default with link:=jbd links (jbf l ((jbo L k y').getD i default).link)+1 }:=by
      unfold ruf jss
      rw[if_pos ⟨hyp.1,hyp.2⟩]
      rfl
     rw[hu]at hst
     exact⟨i+1,by omega,by omega,Cos.intro [0,1,2] [] rfl (by rw[←hst];(simp only[SA,seval,rdB,jab,ja5,ja4,tq0,tq1,tq2]<;>exact tE))⟩
    ·have hu:ruf l links ((jbo L k y').getD i default)={ (jbo L k y').getD i default with link:=0 }:=by
      unfold ruf jss
      rw[if_neg (fun q=>hyp.elim q.1 (fun w=>w q.2))]
      rfl
     rw[hu]at hst
     exact⟨i+1,by omega,by omega,Cos.intro [0,1,2] [] rfl (by rw[←hst];(simp only[SA,seval,rdB,jab,ja5,ja4,tq0,tq1,tq2]<;>exact tE))⟩
   ·have hha:=jst (ruf l links) (jbo L k y') i (by omega)
    have hlk3:((jbo L k y').map (ruf l links)).length=k:=by rw[List.length_map,hrl]
    have hw3:List.take k ((jbo L k y').map (ruf l links))=(jbo L k y').map (ruf l links):=List.take_of_length_le (by omega)
    repeat' first|simp only[SA,seval,rdB,jab,ja5,ja4,tq0,tq1,tq2]|simp only[hw]|simp only[hw2]|simp only[hw3]|refine tT ?_|refine And.intro ?_ ?_|exact tC|(refine tI ?_;intro hyp)|intro hyp0|omega
    refine⟨(),Cos.intro [0,1] [2] rfl ?_⟩
    rw[hha]
    simp only[SA,seval,rdB,jab,ja5,ja4,tq0,tq1,tq2,hw3,hlk3]
    exact⟨Nat.le_refl _,Nat.le_refl _,Nat.le_refl _⟩
  ·exact⟨y'+1,by omega,by omega,Cos.intro [0,3] [] rfl (by rw[jmP,List.map_append];(simp only[SA,seval,rdB,jab,ja5,ja4,tq0,tq1,tq2]<;>exact tE))⟩
 ·obtain rfl:y'=r:=by omega
  have hw3:List.take y' ((jbv L k y').map fun a=>a.map (ruf l links))=(jbv L k y').map fun a=>a.map (ruf l links):=List.take_of_length_le (by omega)
  repeat' first|simp only[SA,seval,rdB,jab,ja5,ja4,tq0,tq1,tq2]|simp only[hw]|simp only[hw2]|simp only[hw3]|refine tT ?_|refine Cos.intro [1] [] rfl ?_|refine And.intro ?_ ?_|exact tC|(refine tI ?_;intro hyp)|intro hyp0|omega)
abbrev jdc (k:Int) (r:Int) (L:List CD) (x:Int) (y:Int) (hd:Bool) (mo:Int) (ti:ByteArray) (l:List ByteArray) (more:List ByteArray) (d:List Int) (a:Nat):List CV:=[.agg [.vec (.int .u8) d,.int .i64 (a:Int),.int .i64 0,.int .i64 k,.int .i64 r,.vec .cell L,.int .i64 x,.int .i64 y,.bool hd,.int .u8 mo,.str ti,.vec .str l,.vec .str more]]
abbrev jjy (k:Int) (r:Int) (L:List CD) (x:Int) (y:Int) (hd:Bool) (mo:Int) (ti:ByteArray) (l:List ByteArray) (more:List ByteArray) (d:List Int) (a:Nat):Prop×Res:=(RdOk d a∧Szd k r L∧ScrOk L l∧l.length≤16∧jct L l=true,.ret (.tup [.agg [.vec (.int .u8) d,.int .i64 (lkG d a l).2.1,.int .i64 0,.int .i64 k,.int .i64 r,.vec .cell (L.map (ulf l (lkG d a l).2.2)),.int .i64 x,.int .i64 y,.bool hd,.int .u8 mo,.str ti,.vec .str l,.vec .str (lkG d a l).2.2],.int .i64 0]))
abbrev jjz (k:Int) (r:Int) (L:List CD) (x:Int) (y:Int) (hd:Bool) (mo:Int) (ti:ByteArray) (l:List ByteArray) (more:List ByteArray) (d:List Int) (a:Nat):Prop×Res:=(RdOk d a∧Szd k r L∧ScrOk L l∧l.length≤16∧jct L l=true,.ret (.tup [.agg [.vec (.int .u8) d,.int .i64 (lkX d a l).a,.int .i64 (lkX d a l).e,.int .i64 k,.int .i64 r,.vec .cell L,.int .i64 x,.int .i64 y,.bool hd,.int .u8 mo,.str ti,.vec .str l,.vec .str more],.int .i64 (lkG d a l).1]))
noncomputable def jhC:Spec:=spOf (α:=Int×Int×(List CD)×Int×Int×Bool×Int×ByteArray×(List ByteArray)×(List ByteArray)×(List Int)×Nat) (fun⟨k,r,L,x,y,hd,mo,ti,l,more,d,a⟩=>jdc k r L x y hd mo ti l more d a) fun⟨k,r,L,x,y,hd,mo,ti,l,more,d,a⟩=>jjy k r L x y hd mo ti l more d a
noncomputable def jhD:Spec:=spOf (α:=Int×Int×(List CD)×Int×Int×Bool×Int×ByteArray×(List ByteArray)×(List ByteArray)×(List Int)×Nat) (fun⟨k,r,L,x,y,hd,mo,ti,l,more,d,a⟩=>jdc k r L x y hd mo ti l more d a) fun⟨k,r,L,x,y,hd,mo,ti,l,more,d,a⟩=>jjz k r L x y hd mo ti l more d a
noncomputable def esp_r8linked:QSpec:=jng (α:=Int×Int×(List CD)×Int×Int×Bool×Int×ByteArray×(List ByteArray)×(List ByteArray)×(List Int)×Nat) (fun⟨k,r,L,x,y,hd,mo,ti,l,more,d,a⟩=>jdc k r L x y hd mo ti l more d a) fun⟨k,r,L,x,y,hd,mo,ti,l,more,d,a⟩=>(lkG d a l).1
theorem jeU:InjS (α:=Int×Int×(List CD)×Int×Int×Bool×Int×ByteArray×(List ByteArray)×(List ByteArray)×(List Int)×Nat) (fun⟨k,r,L,x,y,hd,mo,ti,l,more,d,a⟩=>jdc k r L x y hd mo ti l more d a):=injS
theorem jaC (k:Int) (r:Int) (L:List CD) (x:Int) (y:Int) (hd:Bool) (mo:Int) (ti:ByteArray) (l:List ByteArray) (more:List ByteArray) (d:List Int) (a:Nat):jhC (jdc k r L x y hd mo ti l more d a)=some (jjy k r L x y hd mo ti l more d a):=jaq _ jeU (k,r,L,x,y,hd,mo,ti,l,more,d,a)
theorem jaD (k:Int) (r:Int) (L:List CD) (x:Int) (y:Int) (hd:Bool) (mo:Int) (ti:ByteArray) (l:List ByteArray) (more:List ByteArray) (d:List Int) (a:Nat):jhD (jdc k r L x y hd mo ti l more d a)=some (jjz k r L x y hd mo ti l more d a):=jaq _ jeU (k,r,L,x,y,hd,mo,ti,l,more,d,a)
theorem jav (k:Int) (r:Int) (L:List CD) (x:Int) (y:Int) (hd:Bool) (mo:Int) (ti:ByteArray) (l:List ByteArray) (more:List ByteArray) (d:List Int) (a:Nat):esp_r8linked (jdc k r L x y hd mo ti l more d a)=(lkG d a l).1:=jeK _ jeU (k,r,L,x,y,hd,mo,ti,l,more,d,a)
theorem jrL:AliasQ Tryz.prog E0 33 jhC jhD esp_r8linked:=AliasQ.of jeU (fun _=>rfl) fun⟨k,r,L,x,y,hd,mo,ti,l,more,d,a⟩ hG=>TF.intro (V:=(VV [(34,conQ [.agg [.sl (.int .u8),.any,.any,.any,.any,.sl .cell,.any,.any,.any,.any,.any,.sl .str,.sl .str],.any] jgS jgT esp_r8num),(30,conT [.sl .str] sp_rscopy),(69,conA [.agg [.sl (.int .u8),.any,.any],.any] sp_rrtext),(70,conF [.any] sp_rlmay),(71,conF [.agg [.any,.any,.sl .cell,.any,.any,.any,.any,.any,.sl .str],.sl .str] sp_r8underT),(35,conF [.sl (.rows .cell)] sp_rgof)] (.cons (jaa jb6) (AliasQ.soundQ jkg) (.cons (jaa jiT) (Fresh.soundT jpG) (.cons (jaa jdv) (Alias.soundA jpQ) (.cons (jaa jlr) (Fresh.soundF jsA) (.cons (jaa jlW) (Fresh.soundF jrK) (.cons (jaa jgH) (Fresh.soundF jnJ) GOk.nil)))))) 88 0)) jeS rfl rfl (by
 dsimp only[jdc,jjy,jjz]at hG ⊢
 obtain⟨hr1,hz,hs,hl,hlb⟩:=hG
 have h3:=hr1.2.2
 have hle:=hz.le
 obtain⟨hk,hr,hL⟩:=hz
 have hsl:=hs.slen
 have hwf:=hs.wf
 obtain⟨a1,b1⟩:∃a1,a+varU d a=a1:=⟨_,rfl⟩
 obtain⟨a2,b2⟩:∃a2,a1+varU d a1=a2:=⟨_,rfl⟩
 have hr2:=jdQ hr1 b1
 have hr3:=jdQ hr2 b2
 have v1:=jar h3 a
 have v2:=jar h3 a1
 by_cases e1:upE d a l.length=0
 case neg =>
  have hW:lkG d a l=(upE d a l.length,0,[]):=by rw[lkG,if_pos e1]
  have hX:lkX d a l=⟨a1,varE d a⟩:=by rw[lkX,if_pos e1,nmX,b1]
  rw[hW,hX,jbI e1]
  have hw:=And.intro b1 (eq_false e1)
  repeat' first|exact hr1|simp only[PB,SA,seval,rdB,jag,jah,jad,jau,ja6,jbU,jbA,jap,tq0,tq1,tq2]|simp only[hw]|simp only[hw2]|refine tT ?_|refine Cos.intro [] [0,1,2,3,4,5,6,7,8,9] rfl ?_|refine And.intro ?_ ?_|exact tC|(refine tI ?_;intro hyp)|intro hyp0|omega
 have u1:=jbe e1
 by_cases e2:upE d a1 (16-varV d a)=0
 case neg =>
  have hW:lkG d a l=(upE d a1 (16-varV d a),0,[]):=by simp only[lkG,b1,e1,e2,ne_eq,not_true_eq_false,not_false_eq_true,if_true,if_false]
  have hX:lkX d a l=⟨a2,varE d a1⟩:=by simp only[lkX,nmX,b1,b2,e1,e2,ne_eq,not_true_eq_false,not_false_eq_true,if_true,if_false]
  rw[hW,hX,jbI e2]
  have hw:=And.intro b1 (And.intro e1 (And.intro b2 (eq_false e2)))
  repeat' first|exact hr1|exact hr2|simp only[PB,SA,seval,rdB,jag,jah,jad,jau,ja6,jbU,jbA,jap,tq0,tq1,tq2]|simp only[hw]|simp only[hw2]|refine tT ?_|refine Cos.intro [] [0,1,2,3,4,5,6,7,8,9] rfl ?_|refine And.intro ?_ ?_|exact tC|(refine tI ?_;intro hyp)|intro hyp0|omega
 have u2:=jbe e2
 have hW:lkG d a l=lnkG d (varV d a1).toNat a2 (l.take (varV d a).toNat):=by simp only[lkG,b1,b2,e1,e2,ne_eq,not_true_eq_false,not_false_eq_true,if_true,if_false]
 have hX:lkX d a l=lnX d (varV d a1).toNat a2:=by simp only[lkX,b1,b2,e1,e2,ne_eq,not_true_eq_false,not_false_eq_true,if_true,if_false]
 rw[hW,hX]
 generalize hWg:lnkG d (varV d a1).toNat a2 (l.take (varV d a).toNat)=W
 generalize hXg:lnX d (varV d a1).toNat a2=Y
 have htk:(l.take (varV d a).toNat).length=(varV d a).toNat:=by rw[List.length_take];omega
 have htk2:(l.take (varV d a).toNat).length≤1000000:=by omega
 have hw:=And.intro b1 (And.intro e1 (And.intro b2 (And.intro e2 htk)))
 repeat' first|exact hr1|exact hr2|exact htk2|refine T.cut (a:=z112_12) (fun q:Nat×List ByteArray=>⟨[(1,.ptr 0 0 0),(2,.ptr 1 0 0),(7,.vec .str q.2)],[.box [.vec (.int .u8) d,.int .i64 q.1,.int .i64 0,.int .i64 k,.int .i64 r,.vec .cell L,.int .i64 x,.int .i64 y,.bool hd,.int .u8 mo,.str ti,.vec .str l,.vec .str more],.box [.nils,.int .i64 0,.int .i64 0,.int .i64 0,.int .i64 0,.nils,.int .i64 0,.int .i64 0,.bool false,.int .u8 0,.str (bs []),.nils,.nils]]⟩) (fun q=>(0,q.1,q.2)=W∧RdOk d q.1∧q.2.length≤16) ?_ (fun q hq=>Held.out ?_)|simp only[PB,SA,seval,rdB,jag,jah,jad,jau,ja6,jbU,jbA,jap,tq0,tq1,tq2]|simp only[hw]|simp only[hw2]|refine tT ?_|refine And.intro ?_ ?_|exact tC|(refine tI ?_;intro hyp)|intro hyp0|omega
 rotate_left
 ·constructor
  obtain⟨a',m⟩:=q
  obtain⟨hWq,hr',hm⟩:=hq
  dsimp only at hWq hr' hm
  subst hWq
  rw[jeZ rfl]
  clear hw
  have hm6:m.length≤60000:=by omega
  have hcond:((0≤k∧k≤100)∧(0≤r∧r≤100)∧L.length=k.toNat*r.toNat)∧ScrOk L l∧m.length≤60000:=⟨⟨by omega,by omega,hL⟩,hs,hm6⟩
  have hfl:((jbv L k.toNat r.toNat).map fun a=>a.map (ruf l m)).flatten=L.map (ulf l m):=by
   rw[jys _ hL]
   exact List.map_congr_left fun c hc=>jz4 hlb hc (hwf c hc).link.1
  have hfl2:(L.map (ulf l m)).length≤1000000:=by
   rw[List.length_map]
   omega
  have hfl3:((jbv L k.toNat r.toNat).map fun a=>a.map (ruf l m)).length≤1000000:=by
   rw[List.length_map,jcC]
   omega
  have hw2:=hfl
  repeat' first|exact hcond|exact hfl2|exact hfl3|simp only[PB,SA,seval,rdB,jag,jah,jad,jau,ja6,jbU,jbA,jap,tq0,tq1,tq2]|simp only[hw]|simp only[hw2]|refine tT ?_|refine Cos.intro [] [0,1,2,3,4,5,6,7,8,9] rfl ?_|refine And.intro ?_ ?_|exact tC|(refine tI ?_;intro hyp)|intro hyp0|omega
 refine T.loop (fun q:Nat×Nat×List ByteArray=>⟨[(1,.ptr 0 0 0),(2,.ptr 1 0 0),(6,.int .i64 (varV d a1)),(7,.slice 2 0 1 q.2.2.length q.2.2.length),(8,.int .i64 q.1)],[.box [.vec (.int .u8) d,.int .i64 q.2.1,.int .i64 0,.int .i64 k,.int .i64 r,.vec .cell L,.int .i64 x,.int .i64 y,.bool hd,.int .u8 mo,.str ti,.vec .str l,.vec .str more],.box [.nils,.int .i64 0,.int .i64 0,.int .i64 0,.int .i64 0,.nils,.int .i64 0,.int .i64 0,.bool false,.int .u8 0,.str (bs []),.nils,.nils],.seq .str q.2.2]⟩) (fun q=>q.1≤(varV d a1).toNat∧RdOk d q.2.1∧q.2.2.length+((varV d a1).toNat-q.1)≤16∧lnkG d ((varV d a1).toNat-q.1) q.2.1 q.2.2=W∧lnX d ((varV d a1).toNat-q.1) q.2.1=Y) (fun q=>(varV d a1).toNat-q.1) (0,a2,l.take (varV d a).toNat) ⟨by omega,hr3,by dsimp only;omega,hWg,hXg⟩ (Cos.intro [0,1,2] [] rfl (by (simp only[PB,SA,seval,rdB,jag,jah,jad,jau,ja6,jbU,jbA,jap,tq0,tq1,tq2]<;>exact tE))) (fun q hq=>?_)
 obtain⟨i,a',m⟩:=q
 obtain⟨hi,hr',hm,hg,hx⟩:=hq
 dsimp only at hi hm hg hr' hx
 clear hw
 by_cases hin:i<(varV d a1).toNat
 ·obtain⟨n',hn'⟩:∃n',(varV d a1).toNat-i=n'+1:=⟨(varV d a1).toNat-i-1,by omega⟩
  rw[hn']at hg hx
  simp only[lnkG]at hg
  simp only[lnX]at hx
  have hsl2:SLen (jbl (jcM d a' 64)):=by
   have:=jib d a' 64
   have:=hr'.2.1
   simp only[SLen,jc8]
   omega
  by_cases t1:jcB d a' 64=0
  ·rw[if_neg (by simp[t1])]at hg hx
   cases t2:jdn (jbl (jcM d a' 64))
   ·rw[if_pos t2]at hg hx
    subst hg
    subst hx
    rw[jbI (by decide)]
    have hw2:=And.intro t1 t2
    repeat' first|exact h3 _ ‹_›|exact hsl2|exact hr'.1|exact hr'.2.1|simp only[PB,SA,seval,rdB,jag,jah,jad,jau,ja6,jbU,jbA,jap,tq0,tq1,tq2]|simp only[hw]|simp only[hw2]|refine tT ?_|refine Cos.intro [] [0,1,2,3,4,5,6,7,8,9] rfl ?_|refine And.intro ?_ ?_|exact tC|(refine tI ?_;intro hyp)|intro hyp0|omega
   ·rw[if_neg (by simp[t2])]at hg hx
    have hw2:=And.intro t1 t2
    have hml:m.length≤1073741823:=by omega
    repeat' first|exact h3 _ ‹_›|exact hsl2|exact hml|exact hr'.1|exact hr'.2.1|simp only[PB,SA,seval,rdB,jag,jah,jad,jau,ja6,jbU,jbA,jap,tq0,tq1,tq2]|simp only[hw]|simp only[hw2]|refine tT ?_|refine And.intro ?_ ?_|exact tC|(refine tI ?_;intro hyp)|intro hyp0|omega
    exact⟨(i+1,a'+jcU d a' 64,m++[jbl (jcM d a' 64)]),⟨by omega,⟨joh hr'.1,hr'.2⟩,by simp only[List.length_append,List.length_cons,List.length_nil];omega,(show (varV d a1).toNat-(i+1)=n' by omega)▸hg,(show (varV d a1).toNat-(i+1)=n' by omega)▸hx⟩,by simp only;omega,Cos.intro [0,1,6] [] rfl (by (simp only[PB,SA,seval,rdB,jag,jah,jad,jau,ja6,jbU,jbA,jap,tq0,tq1,tq2]<;>exact tE))⟩
  ·rw[if_pos t1]at hg hx
   subst hg
   subst hx
   rw[jbI t1]
   have hV:jcM d a' 64=[]:=if_neg t1
   have hU:jcU d a' 64=0:=if_neg t1
   have hw2:=And.intro (eq_false t1) (And.intro hV hU)
   repeat' first|exact h3 _ ‹_›|exact hr'.1|exact hr'.2.1|simp only[PB,SA,seval,rdB,jag,jah,jad,jau,ja6,jbU,jbA,jap,tq0,tq1,tq2]|simp only[hw]|simp only[hw2]|refine tT ?_|refine Cos.intro [] [0,1,2,3,4,5,6,7,8,9] rfl ?_|refine And.intro ?_ ?_|exact tC|(refine tI ?_;intro hyp)|intro hyp0|omega
 ·rw[show (varV d a1).toNat-i=0 by omega]at hg hx
  simp only[lnkG]at hg
  subst hg
  repeat' first|simp only[PB,SA,seval,rdB,jag,jah,jad,jau,ja6,jbU,jbA,jap,tq0,tq1,tq2]|simp only[hw]|simp only[hw2]|refine tT ?_|refine And.intro ?_ ?_|exact tC|(refine tI ?_;intro hyp)|intro hyp0|omega
  exact⟨(a',m),⟨rfl,hr',by dsimp only;omega⟩,Cos.intro [0,1] [2] rfl (by (simp only[PB,SA,seval,rdB,jag,jah,jad,jau,ja6,jbU,jbA,jap,tq0,tq1,tq2]<;>exact tE))⟩)
abbrev jdd (k:Int) (r:Int) (L:List CD) (x:Int) (y:Int) (hd:Bool) (mo:Int) (ti:ByteArray) (l:List ByteArray) (more:List ByteArray) (d:List Int) (a:Nat):List CV:=[.agg [.vec (.int .u8) d,.int .i64 (a:Int),.int .i64 0,.int .i64 k,.int .i64 r,.vec .cell L,.int .i64 x,.int .i64 y,.bool hd,.int .u8 mo,.str ti,.vec .str l,.vec .str more]]
abbrev jjA (k:Int) (r:Int) (L:List CD) (x:Int) (y:Int) (hd:Bool) (mo:Int) (ti:ByteArray) (l:List ByteArray) (more:List ByteArray) (d:List Int) (a:Nat):Prop×Res:=(RdOk d a∧Szd k r L,.ret (.tup [.agg [.vec (.int .u8) d,.int .i64 (cpsG d a k.toNat r.toNat L).2.1,.int .i64 0,.int .i64 k,.int .i64 r,.vec .cell (cpsG d a k.toNat r.toNat L).2.2,.int .i64 x,.int .i64 y,.bool hd,.int .u8 mo,.str ti,.vec .str l,.vec .str more],.int .i64 0]))
abbrev jjB (k:Int) (r:Int) (L:List CD) (x:Int) (y:Int) (hd:Bool) (mo:Int) (ti:ByteArray) (l:List ByteArray) (more:List ByteArray) (d:List Int) (a:Nat):Prop×Res:=(RdOk d a∧Szd k r L,.ret (.tup [.agg [.vec (.int .u8) d,.int .i64 (cpsX d a r.toNat).a,.int .i64 (cpsX d a r.toNat).e,.int .i64 k,.int .i64 r,.vec .cell L,.int .i64 x,.int .i64 y,.bool hd,.int .u8 mo,.str ti,.vec .str l,.vec .str more],.int .i64 (cpsG d a k.toNat r.toNat L).1]))
noncomputable def jhE:Spec:=spOf (α:=Int×Int×(List CD)×Int×Int×Bool×Int×ByteArray×(List ByteArray)×(List ByteArray)×(List Int)×Nat) (fun⟨k,r,L,x,y,hd,mo,ti,l,more,d,a⟩=>jdd k r L x y hd mo ti l more d a) fun⟨k,r,L,x,y,hd,mo,ti,l,more,d,a⟩=>jjA k r L x y hd mo ti l more d a
noncomputable def jhF:Spec:=spOf (α:=Int×Int×(List CD)×Int×Int×Bool×Int×ByteArray×(List ByteArray)×(List ByteArray)×(List Int)×Nat) (fun⟨k,r,L,x,y,hd,mo,ti,l,more,d,a⟩=>jdd k r L x y hd mo ti l more d a) fun⟨k,r,L,x,y,hd,mo,ti,l,more,d,a⟩=>jjB k r L x y hd mo ti l more d a
noncomputable def esp_r8copies:QSpec:=jng (α:=Int×Int×(List CD)×Int×Int×Bool×Int×ByteArray×(List ByteArray)×(List ByteArray)×(List Int)×Nat) (fun⟨k,r,L,x,y,hd,mo,ti,l,more,d,a⟩=>jdd k r L x y hd mo ti l more d a) fun⟨k,r,L,x,y,hd,mo,ti,l,more,d,a⟩=>(cpsG d a k.toNat r.toNat L).1
theorem jeV:InjS (α:=Int×Int×(List CD)×Int×Int×Bool×Int×ByteArray×(List ByteArray)×(List ByteArray)×(List Int)×Nat) (fun⟨k,r,L,x,y,hd,mo,ti,l,more,d,a⟩=>jdd k r L x y hd mo ti l more d a):=injS
theorem jaE (k:Int) (r:Int) (L:List CD) (x:Int) (y:Int) (hd:Bool) (mo:Int) (ti:ByteArray) (l:List ByteArray) (more:List ByteArray) (d:List Int) (a:Nat):jhE (jdd k r L x y hd mo ti l more d a)=some (jjA k r L x y hd mo ti l more d a):=jaq _ jeV (k,r,L,x,y,hd,mo,ti,l,more,d,a)
theorem jaF (k:Int) (r:Int) (L:List CD) (x:Int) (y:Int) (hd:Bool) (mo:Int) (ti:ByteArray) (l:List ByteArray) (more:List ByteArray) (d:List Int) (a:Nat):jhF (jdd k r L x y hd mo ti l more d a)=some (jjB k r L x y hd mo ti l more d a):=jaq _ jeV (k,r,L,x,y,hd,mo,ti,l,more,d,a)
theorem jaw (k:Int) (r:Int) (L:List CD) (x:Int) (y:Int) (hd:Bool) (mo:Int) (ti:ByteArray) (l:List ByteArray) (more:List ByteArray) (d:List Int) (a:Nat):esp_r8copies (jdd k r L x y hd mo ti l more d a)=(cpsG d a k.toNat r.toNat L).1:=jeK _ jeV (k,r,L,x,y,hd,mo,ti,l,more,d,a)
theorem jrM:AliasQ Tryz.prog E0 38 jhE jhF esp_r8copies:=AliasQ.of jeV (fun _=>rfl) fun⟨k,r,L,x,y,hd,mo,ti,l,more,d,a⟩ hG=>TF.intro (V:=(VV [(73,conQ [.agg [.sl (.int .u8),.any,.any,.any,.any,.sl .cell,.any,.any,.any,.any,.any,.sl .str,.sl .str]] jgU jgV esp_r8count),(37,conT [.agg [.any,.any,.sl .cell,.any,.any,.any,.any,.any,.sl .str]] sp_r8rows),(34,conQ [.agg [.sl (.int .u8),.any,.any,.any,.any,.sl .cell,.any,.any,.any,.any,.any,.sl .str,.sl .str],.any] jgS jgT esp_r8num),(35,conF [.sl (.rows .cell)] sp_rgof)] (.cons (jaa jdD) (AliasQ.soundQ jmQ) (.cons (jaa jjt) (Fresh.soundT jpR) (.cons (jaa jb6) (AliasQ.soundQ jkg) (.cons (jaa jgH) (Fresh.soundF jnJ) GOk.nil)))) 80 0)) jeT rfl rfl (by
 dsimp only[jdd,jjA,jjB]at hG ⊢
 obtain⟨hr1,hz⟩:=hG
 have h3:=hr1.2.2
 have hle:=hz.le
 obtain⟨hk,hr,hL⟩:=hz
 obtain⟨k,rfl⟩:∃n:Nat,k=n:=⟨k.toNat,by omega⟩
 obtain⟨r,rfl⟩:∃n:Nat,r=n:=⟨r.toNat,by omega⟩
 simp only[Int.toNat_natCast]at hL ⊢
 obtain⟨a1,b1⟩:∃a1,a+varU d a=a1:=⟨_,rfl⟩
 have hr2:=jdQ hr1 b1
 have v1:=jar h3 a
 by_cases e1:jdr d a=0
 case neg =>
  have hW:cpsG d a k r L=(jdr d a,0,[]):=by rw[cpsG,if_pos e1]
  have hX:cpsX d a r=⟨a1,varE d a⟩:=by rw[cpsX,if_pos e1,nmX,b1]
  rw[hW,hX,jbI e1]
  have hw:=And.intro b1 (eq_false e1)
  repeat' first|exact hr1|simp only[PB,SA,seval,rdB,jae,jaf,jac,jax,jag,jah,jad,jap,tq0,tq1,tq2]|simp only[hw]|simp only[hw2]|simp only[hw3]|refine tT ?_|refine Cos.intro [] [0,1,2,3,4,5,6,7,8,9] rfl ?_|refine And.intro ?_ ?_|exact tC|(refine tI ?_;intro hyp)|intro hyp0|omega
 have hW:cpsG d a k r L=cpG d k r L (varV d a).toNat a1 0 L:=by simp only[cpsG,b1,e1,ne_eq,not_true_eq_false,not_false_eq_true,if_true,if_false]
 have hX:cpsX d a r=cpX d r (varV d a).toNat a1 0:=by simp only[cpsX,b1,e1,ne_eq,not_true_eq_false,not_false_eq_true,if_true,if_false]
 rw[hW,hX]
 have hn1:((varV d a).toNat:Int)<18446744073709551616:=by omega
 have hN:((varV d a).toNat:Int)=varV d a:=by omega
 generalize (varV d a).toNat=N at hn1 hN ⊢
 have hNf:Few N:=hn1
 generalize hWg:cpG d k r L N a1 0 L=W
 generalize hXg:cpX d r N a1 0=Y
 have hrw:(0≤(k:Int)∧(k:Int)≤100)∧(0≤(r:Int)∧(r:Int)≤100)∧L.length=(k:Int).toNat*(r:Int).toNat:=⟨by omega,by omega,by simpa using hL⟩
 have hml:=jcC L k r
 have hw:=And.intro b1 (And.intro e1 hml)
 repeat' first|exact hr1|exact hrw|simp only[PB,SA,seval,rdB,jae,jaf,jac,jax,jag,jah,jad,jap,tq0,tq1,tq2]|simp only[hw]|simp only[hw2]|simp only[hw3]|refine tT ?_|refine And.intro ?_ ?_|exact tC|(refine tI ?_;intro hyp)|intro hyp0|omega
 have hR0:=jdy (k:=k) (r:=r) hL
 have hf0:=jiQ (k:=k) (r:=r) hL
 refine T.loop (fun q:Nat×Nat×Nat×List (List CD)=>⟨[(1,.ptr 0 0 0),(2,.ptr 1 0 0),(4,.int .u64 N),(6,.slice 2 0 1 r r),(7,.slice 3 0 1 r r),(8,.int .i64 q.2.2.1),(9,.int .u64 q.1)],[.box [.vec (.int .u8) d,.int .i64 q.2.1,.int .i64 0,.int .i64 k,.int .i64 r,.vec .cell L,.int .i64 x,.int .i64 y,.bool hd,.int .u8 mo,.str ti,.vec .str l,.vec .str more],.box [.nils,.int .i64 0,.int .i64 0,.int .i64 0,.int .i64 0,.nils,.int .i64 0,.int .i64 0,.bool false,.int .u8 0,.str (bs []),.nils,.nils],.seq (.rows .cell) (jbv L k r),.seq (.rows .cell) q.2.2.2]⟩) (fun q=>q.1≤N∧RdOk d q.2.1∧q.2.2.1≤r∧Rect q.2.2.2 k r∧cpG d k r L (N-q.1) q.2.1 q.2.2.1 q.2.2.2.flatten=W∧cpX d r (N-q.1) q.2.1 q.2.2.1=Y) (fun q=>N-q.1) (0,a1,0,jbv L k r) ⟨Nat.zero_le _,hr2,Nat.zero_le _,hR0,by dsimp only;rw[hf0];exact hWg,hXg⟩ (Cos.intro [0,1,2,3] [] rfl (by simp only[hN];(simp only[PB,SA,seval,rdB,jae,jaf,jac,jax,jag,jah,jad,jap,tq0,tq1,tq2]<;>exact tE))) (fun q hq=>?_)
 obtain⟨i,a',pos,M⟩:=q
 obtain⟨hi,hr',hp,hR,hg,hx⟩:=hq
 dsimp only at hi hr' hp hR hg hx
 clear hw
 have hMl:=hR.len
 by_cases hin:i<N
 ·obtain⟨n',hn'⟩:∃n',N-i=n'+1:=⟨N-i-1,by omega⟩
  rw[hn']at hg hx
  simp only[cpG]at hg
  simp only[cpX]at hx
  obtain⟨c1,b3⟩:∃c1,a'+varU d a'=c1:=⟨_,rfl⟩
  obtain⟨c2,b4⟩:∃c2,c1+varU d c1=c2:=⟨_,rfl⟩
  have hr3:=jdQ hr' b3
  have hr4:=jdQ hr3 b4
  have g1:=jar h3 a'
  have g2:=jar h3 c1
  simp only[nmX,b3,b4]at hg hx
  by_cases t1:upE d a' ((r:Int)-1-pos)=0
  ·have u1:=jbe t1
   rw[if_neg (by simp[t1])]at hg hx
   by_cases t2:upE d c1 ((r:Int)-1)=0
   ·have u2:=jbe t2
    rw[if_neg (by simp[t2])]at hg hx
    have z1:pos+(varV d a').toNat<r:=by omega
    have z2:(varV d c1).toNat<r:=by omega
    have z3:((pos:Int)+varV d a').toNat=pos+(varV d a').toNat:=by omega
    have hrl:(jbo L k (varV d c1).toNat).length=k:=jdM hL z2
    have hga:(jbv L k r).getD (varV d c1).toNat []=jbo L k (varV d c1).toNat:=jfN z2
    have hfs:=jsQ hrl hR.row (i:=pos+(varV d a').toNat) (by omega)
    have hrs:=jyt (i:=pos+(varV d a').toNat) hR hrl
    have hwr:IntKind.u64.wrap ((i:Int)+1)=((i+1:Nat):Int):=jmb (by omega)
    have hps:(pos:Int)+(varV d a'+1)=((pos+(varV d a').toNat+1:Nat):Int):=by omega
    have hw2:=And.intro b3 (And.intro t1 (And.intro b4 (And.intro t2 (And.intro hga z3))))
    have hw3:=And.intro hwr (And.intro hMl hml)
    repeat' first|exact hr'|exact hr3|simp only[PB,SA,seval,rdB,jae,jaf,jac,jax,jag,jah,jad,jap,tq0,tq1,tq2]|simp only[hw]|simp only[hw2]|simp only[hw3]|refine tT ?_|refine And.intro ?_ ?_|exact tC|(refine tI ?_;intro hyp)|intro hyp0|omega
    refine⟨(i+1,c2,pos+(varV d a').toNat+1,M.set (pos+(varV d a').toNat) (jbo L k (varV d c1).toNat)),⟨by dsimp only;omega,hr4,by dsimp only;omega,hrs,?_,?_⟩,by dsimp only;omega,Cos.intro [0,1,2,3] [] rfl (by (simp only[PB,SA,seval,rdB,jae,jaf,jac,jax,jag,jah,jad,jap,tq0,tq1,tq2]<;>exact tE))⟩
    ·dsimp only
     rw[show N-(i+1)=n' by omega,hfs]
     exact hg
    ·dsimp only
     rw[show N-(i+1)=n' by omega]
     exact hx
   ·rw[if_pos t2]at hg hx
    subst hg
    subst hx
    rw[jbI t2]
    have hw2:=And.intro b3 (And.intro t1 (And.intro b4 (And.intro (eq_false t2) (And.intro hMl hml))))
    repeat' first|exact hr'|exact hr3|simp only[PB,SA,seval,rdB,jae,jaf,jac,jax,jag,jah,jad,jap,tq0,tq1,tq2]|simp only[hw]|simp only[hw2]|simp only[hw3]|refine tT ?_|refine Cos.intro [] [0,1,2,3,4,5,6,7,8,9] rfl ?_|refine And.intro ?_ ?_|exact tC|(refine tI ?_;intro hyp)|intro hyp0|omega
  ·rw[if_pos t1]at hg hx
   subst hg
   subst hx
   rw[jbI t1]
   have hw2:=And.intro b3 (And.intro (eq_false t1) (And.intro hMl hml))
   repeat' first|exact hr'|simp only[PB,SA,seval,rdB,jae,jaf,jac,jax,jag,jah,jad,jap,tq0,tq1,tq2]|simp only[hw]|simp only[hw2]|simp only[hw3]|refine tT ?_|refine Cos.intro [] [0,1,2,3,4,5,6,7,8,9] rfl ?_|refine And.intro ?_ ?_|exact tC|(refine tI ?_;intro hyp)|intro hyp0|omega
 ·rw[show N-i=0 by omega]at hg hx
  simp only[cpG]at hg
  subst hg
  rw[jeZ rfl]
  have hfl:M.flatten.length≤1000000:=by
   rw[jpS hR,Nat.mul_comm,←hL]
   omega
  have hM6:M.length≤1000000:=by omega
  have htk:List.take r M=M:=List.take_of_length_le (by omega)
  have hw2:=And.intro hMl htk
  repeat' first|exact hfl|exact hM6|exact⟨hfl,hM6⟩|simp only[PB,SA,seval,rdB,jae,jaf,jac,jax,jag,jah,jad,jap,tq0,tq1,tq2]|simp only[hw]|simp only[hw2]|simp only[hw3]|refine tT ?_|refine Cos.intro [] [0,1,2,3,4,5,6,7,8,9] rfl ?_|refine And.intro ?_ ?_|exact tC|(refine tI ?_;intro hyp)|intro hyp0|omega)
end
end Go.Proofs.YtcfkfgkndncanaaGreatDoor
