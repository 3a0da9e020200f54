/- Texts of this claim, merged by a program of this claim: FFits. -/
import Derived.Test.YtienkkicehmchaaGreatDoorDa23
import Derived.Test.YtienkkicehmchaaGreatDoorDa24
namespace Go.Proofs.YtienkkicehmchaaGreatDoor
set_option linter.unusedVariables false
set_option linter.unusedSimpArgs false
section
open Go.RowKit
set_option maxRecDepth 100000
set_option maxHeartbeats 4000000
def bad1 (c:CD):Bool:=decide (c.wide≠0) || decide (256<c.fg) || decide (256<c.bg)
def bad2 (c:CD):Bool:=decide (c.wide≠0)
def f1:FuncId:=134
def f2:FuncId:=143
def badF (F:FuncId):CD→Bool:=if F=f1 then bad1 else bad2
def idxB (p:CD→Bool) (L:List CD):Int:=if L.any p then ((L.findIdx p:Nat):Int) else -1
theorem bF1:badF 134=bad1:=if_pos rfl
theorem bF2:badF 143=bad2:=if_neg (by decide)
theorem jal:idf .nilfn=true:=rfl
theorem jaw (F:FuncId):idf (.mfn F)=true:=rfl
def wayV (v:Int):CV :=
 if v=1 then .agg [.mfn 46,.mfn 47,.mfn 48,.mfn 49]
 else if v=2 then .agg [.mfn 50,.mfn 51,.mfn 52,.mfn 53]
 else if v=3 then .agg [.mfn 54,.mfn 55,.mfn 56,.mfn 57]
 else .agg [.nilfn,.nilfn,.nilfn,.nilfn]
theorem jaO (F:FuncId):idf (.fn F [])=true:=rfl
abbrev jk6 (c:CD):List CV:=[jaJ c]
abbrev jk7 (c:CD):Prop×Res:=(True,.ret (.bool (bad1 c)))
noncomputable def sp_fbad1:Spec:=spOf (α:=CD) (fun c=>jk6 c) fun c=>jk7 c
theorem jaT (c:CD):sp_fbad1 (jk6 c)=some (jk7 c):=jad _ injS c
theorem jqZ:Alias Tryz.prog E0 134 sp_fbad1:=Alias.of fun c hG=>TF.intro (V:=(VV [] GOk.nil 18 0)) jcX rfl rfl (by
 dsimp only[jk6,jk7]at hG ⊢
 repeat' first|simp only[SA,seval,rdB,bF1,bF2,jaO,jaw,jal]|refine tT ?_|refine Cos.intro [] [] rfl ?_|refine And.intro ?_ ?_|exact tC|(refine tI ?_;intro hyp)|intro hyp0|omega
 all_goals (simp only[bad1];simp_all))
theorem jq0:Fresh Tryz.prog E0 134 sp_fbad1:=Alias.fresh jqZ (fun x=>rfl)
abbrev jk8 (c:CD):List CV:=[jaJ c]
abbrev jk9 (c:CD):Prop×Res:=(True,.ret (.bool (bad2 c)))
noncomputable def sp_fbad2:Spec:=spOf (α:=CD) (fun c=>jk8 c) fun c=>jk9 c
theorem jaU (c:CD):sp_fbad2 (jk8 c)=some (jk9 c):=jad _ injS c
theorem jq1:Alias Tryz.prog E0 143 sp_fbad2:=Alias.of fun c hG=>TF.intro (V:=(VV [] GOk.nil 6 0)) jcY rfl rfl (by
 dsimp only[jk8,jk9]at hG ⊢
 repeat' first|simp only[SA,seval,rdB,bF1,bF2,jaO,jaw,jal]|refine tT ?_|refine Cos.intro [] [] rfl ?_|refine And.intro ?_ ?_|exact tC|(refine tI ?_;intro hyp)|intro hyp0|omega
 simp[bad2])
theorem jq2:Fresh Tryz.prog E0 143 sp_fbad2:=Alias.fresh jq1 (fun x=>rfl)
theorem jrt {f:Nat→Bool}{k:Nat}(h:f k=false) (hall:∀j,j<k→f j=false):∀j,j<k+1→f j=false:=fun j hj=>by
 by_cases e:j=k
 ·rw[e];exact h
 ·exact hall j (by omega)
theorem jo6 {p:CD→Bool}{L:List CD}{k:Nat}(hk:k<L.length) (hall:∀j,j<k→p (L.getD j default)=false) (h:p (L.getD k default)=true):(k:Int)=idxB p L:=by
 have e:L.getD k default=L[k]:=by simp[hk]
 rw[e]at h
 have h1:L.any p=true:=List.any_eq_true.2 ⟨_,List.getElem_mem hk,h⟩
 have h2:L.findIdx p=k:=by
  rw[List.findIdx_eq hk]
  refine⟨h,fun j hj=>?_⟩
  have:=hall j hj
  rw[List.getD_eq_getElem?_getD,List.getElem?_eq_getElem (by omega)]at this
  simpa using this
 unfold idxB
 rw[if_pos h1,h2]
theorem jru {p:CD→Bool}{L:List CD}{k:Nat}(hk:L.length≤k) (hall:∀j,j<k→p (L.getD j default)=false):-1=idxB p L:=by
 unfold idxB
 rw[if_neg]
 intro h
 obtain⟨x,hx,hp⟩:=List.any_eq_true.1 h
 obtain⟨j,hj,rfl⟩:=List.mem_iff_getElem.1 hx
 have:=hall j (by omega)
 rw[List.getD_eq_getElem?_getD,List.getElem?_eq_getElem hj]at this
 simp_all
abbrev jo7 (L:List CD) (F:FuncId):List CV:=[.vec .cell L,.fn F []]
abbrev jo8 (L:List CD) (F:FuncId):Prop×Res:=((F=f1∨F=f2)∧L.length≤1000000,.ret (.int .i64 (idxB (badF F) L)))
noncomputable def sp_ixfn:Spec:=spOf (α:=(List CD)×FuncId) (fun⟨L,F⟩=>jo7 L F) fun⟨L,F⟩=>jo8 L F
theorem jm4 (L:List CD) (F:FuncId):sp_ixfn (jo7 L F)=some (jo8 L F):=jad _ injS (L,F)
theorem jsQ:Alias Tryz.prog E0 160 sp_ixfn:=Alias.of fun⟨L,F⟩ hG=>TF.intro (V:=(VV [(134,conF [.any] sp_fbad1),(143,conF [.any] sp_fbad2)] (.cons (jaa jcX) (Fresh.soundF jq0) (.cons (jaa jcY) (Fresh.soundF jq2) GOk.nil)) 19 0)) jaL rfl rfl (by
 dsimp only[jo7,jo8]at hG ⊢
 obtain⟨hF,hl⟩:=hG
 rcases hF with rfl|rfl
 ·have e:badF f1=bad1:=bF1
  rw[e]
  repeat' first|simp only[SA,seval,rdB,jaT,jaU,bF1,bF2,jaO,jaw,jal]|refine tT ?_|refine And.intro ?_ ?_|exact tC|(refine tI ?_;intro hyp)|intro hyp0|omega
  refine T.loop (fun k:Nat=>⟨[(0,.vec .cell L),(1,.fn 134 []),(7,.int .i64 L.length),(8,.int .i64 k)],[]⟩) (fun k=>k≤L.length∧∀j,j<k→bad1 (L.getD j default)=false) (fun k=>L.length-k) 0 ⟨by omega,fun j hj=>by omega⟩ (Cos.intro [] [] rfl (by (simp only[SA,seval,rdB,jaT,jaU,bF1,bF2,jaO,jaw,jal]);first|done|(repeat' apply And.intro)<;>first|rfl|omega|simp)) (fun k ⟨hk,hall⟩=>?_)
  repeat' first|simp only[SA,seval,rdB,jaT,jaU,bF1,bF2,jaO,jaw,jal]|refine tT ?_|refine Cos.intro [] [] rfl ?_|refine And.intro ?_ ?_|exact tC|(refine tI ?_;intro hyp)|intro hyp0|omega
  ·exact jo6 (by omega) hall hyp
  ·exact⟨k+1,⟨by omega,jrt hyp hall⟩,by omega,(Cos.intro [] [] rfl (by (simp only[SA,seval,rdB,jaT,jaU,bF1,bF2,jaO,jaw,jal]);first|done|(repeat' apply And.intro)<;>first|rfl|omega|simp))⟩
  ·exact jru (by omega) hall
 ·have e:badF f2=bad2:=bF2
  rw[e]
  repeat' first|simp only[SA,seval,rdB,jaT,jaU,bF1,bF2,jaO,jaw,jal]|refine tT ?_|refine And.intro ?_ ?_|exact tC|(refine tI ?_;intro hyp)|intro hyp0|omega
  refine T.loop (fun k:Nat=>⟨[(0,.vec .cell L),(1,.fn 143 []),(7,.int .i64 L.length),(8,.int .i64 k)],[]⟩) (fun k=>k≤L.length∧∀j,j<k→bad2 (L.getD j default)=false) (fun k=>L.length-k) 0 ⟨by omega,fun j hj=>by omega⟩ (Cos.intro [] [] rfl (by (simp only[SA,seval,rdB,jaT,jaU,bF1,bF2,jaO,jaw,jal]);first|done|(repeat' apply And.intro)<;>first|rfl|omega|simp)) (fun k ⟨hk,hall⟩=>?_)
  repeat' first|simp only[SA,seval,rdB,jaT,jaU,bF1,bF2,jaO,jaw,jal]|refine tT ?_|refine Cos.intro [] [] rfl ?_|refine And.intro ?_ ?_|exact tC|(refine tI ?_;intro hyp)|intro hyp0|omega
  ·exact jo6 (by omega) hall hyp
  ·exact⟨k+1,⟨by omega,jrt hyp hall⟩,by omega,(Cos.intro [] [] rfl (by (simp only[SA,seval,rdB,jaT,jaU,bF1,bF2,jaO,jaw,jal]);first|done|(repeat' apply And.intro)<;>first|rfl|omega|simp))⟩
  ·exact jru (by omega) hall)
theorem jsR:Fresh Tryz.prog E0 160 sp_ixfn:=Alias.fresh jsQ (fun x=>rfl)
theorem jsS (p:CD→Bool) (L:List CD):decide (0≤idxB p L)=L.any p:=by
 unfold idxB
 cases h:L.any p<;>simp
abbrev jo9 (L:List CD) (F:FuncId):List CV:=[.vec .cell L,.fn F []]
abbrev jpa (L:List CD) (F:FuncId):Prop×Res:=((F=f1∨F=f2)∧L.length≤1000000,.ret (.bool (L.any (badF F))))
noncomputable def sp_ctfn:Spec:=spOf (α:=(List CD)×FuncId) (fun⟨L,F⟩=>jo9 L F) fun⟨L,F⟩=>jpa L F
theorem jhZ (L:List CD) (F:FuncId):sp_ctfn (jo9 L F)=some (jpa L F):=jad _ injS (L,F)
theorem jsT:Alias Tryz.prog E0 133 sp_ctfn:=Alias.of fun⟨L,F⟩ hG=>TF.intro (V:=(VV [(160,conF [.sl .cell,.any] sp_ixfn)] (.cons (jaa jaL) (Fresh.soundF jsR) GOk.nil) 9 0)) jat rfl rfl (by
 dsimp only[jo9,jpa]at hG ⊢
 obtain⟨hF,hl⟩:=hG
 repeat' first|exact hF|simp only[SA,seval,rdB,jm4,bF1,bF2,jaO,jaw,jal]|refine tT ?_|refine Cos.intro [] [] rfl ?_|refine And.intro ?_ ?_|exact tC|(refine tI ?_;intro hyp)|intro hyp0|omega
 all_goals exact jsS _ L)
theorem jpb:Fresh Tryz.prog E0 133 sp_ctfn:=Alias.fresh jsT (fun x=>rfl)
def jm5 (k r:Int) (L:List CD) (x y mo:Int) (ti:ByteArray) (l:List ByteArray):Bool:=ja9 k r L x y mo ti l&&decide (l=[])&&decide (mo=0) && !L.any bad1
def fits2 (k r:Int) (L:List CD) (x y mo:Int) (ti:ByteArray) (l:List ByteArray):Bool:=ja9 k r L x y mo ti l&&decide (l=[]) && !L.any bad2
def jhw (v k r:Int) (L:List CD) (x y mo:Int) (ti:ByteArray) (l:List ByteArray):Bool:=if v=1 then jm5 k r L x y mo ti l else if v=2 then fits2 k r L x y mo ti l else if v=3 then ja9 k r L x y mo ti l else false
theorem jpc (l:List ByteArray):decide ((l.length:Int)=0)=decide (l=[]):=decide_eq_decide.2 (by rw[←List.length_eq_zero_iff];omega)
abbrev jiY (k:Int) (r:Int) (L:List CD) (x:Int) (y:Int) (hd:Bool) (mo:Int) (ti:ByteArray) (l:List ByteArray):List CV:=[.agg [.int .i64 k,.int .i64 r,.vec .cell L,.int .i64 x,.int .i64 y,.bool hd,.int .u8 mo,.str ti,.vec .str l]]
abbrev jiZ (k:Int) (r:Int) (L:List CD) (x:Int) (y:Int) (hd:Bool) (mo:Int) (ti:ByteArray) (l:List ByteArray):Prop×Res:=(ScrOk L l∧SLen ti,.ret (.bool (jm5 k r L x y mo ti l)))
noncomputable def sp_pfits1:Spec:=spOf (α:=Int×Int×(List CD)×Int×Int×Bool×Int×ByteArray×(List ByteArray)) (fun⟨k,r,L,x,y,hd,mo,ti,l⟩=>jiY k r L x y hd mo ti l) fun⟨k,r,L,x,y,hd,mo,ti,l⟩=>jiZ k r L x y hd mo ti l
theorem jj2 (k:Int) (r:Int) (L:List CD) (x:Int) (y:Int) (hd:Bool) (mo:Int) (ti:ByteArray) (l:List ByteArray):sp_pfits1 (jiY k r L x y hd mo ti l)=some (jiZ k r L x y hd mo ti l):=jad _ injS (k,r,L,x,y,hd,mo,ti,l)
theorem jpd:Alias Tryz.prog E0 98 sp_pfits1:=Alias.of fun⟨k,r,L,x,y,hd,mo,ti,l⟩ hG=>TF.intro (V:=(VV [(41,conF [.agg [.any,.any,.sl .cell,.any,.any,.any,.any,.any,.sl .str]] sp_eright),(133,conF [.sl .cell,.any] sp_ctfn)] (.cons (jaa jba) (Fresh.soundF jeF) (.cons (jaa jat) (Fresh.soundF jpb) GOk.nil)) 22 0)) jea rfl rfl (by
 dsimp only[jiY,jiZ]at hG ⊢
 obtain⟨hs,ht⟩:=hG
 have hl:=hs.len
 have hl2:=hs.links
 repeat' first|exact hs|exact .inl rfl|exact .inr rfl|simp only[SA,seval,rdB,jaH,jhZ,bF1,bF2,jaO,jaw,jal]|refine tT ?_|refine Cos.intro [] [] rfl ?_|refine And.intro ?_ ?_|exact tC|(refine tI ?_;intro hyp)|intro hyp0|omega
 all_goals (rw[jpc];rfl))
theorem jpe:Fresh Tryz.prog E0 98 sp_pfits1:=Alias.fresh jpd (fun x=>rfl)
abbrev ji0 (k:Int) (r:Int) (L:List CD) (x:Int) (y:Int) (hd:Bool) (mo:Int) (ti:ByteArray) (l:List ByteArray):List CV:=[.agg [.int .i64 k,.int .i64 r,.vec .cell L,.int .i64 x,.int .i64 y,.bool hd,.int .u8 mo,.str ti,.vec .str l]]
abbrev ji1 (k:Int) (r:Int) (L:List CD) (x:Int) (y:Int) (hd:Bool) (mo:Int) (ti:ByteArray) (l:List ByteArray):Prop×Res:=(ScrOk L l∧SLen ti,.ret (.bool (fits2 k r L x y mo ti l)))
noncomputable def sp_pfits2:Spec:=spOf (α:=Int×Int×(List CD)×Int×Int×Bool×Int×ByteArray×(List ByteArray)) (fun⟨k,r,L,x,y,hd,mo,ti,l⟩=>ji0 k r L x y hd mo ti l) fun⟨k,r,L,x,y,hd,mo,ti,l⟩=>ji1 k r L x y hd mo ti l
theorem jj3 (k:Int) (r:Int) (L:List CD) (x:Int) (y:Int) (hd:Bool) (mo:Int) (ti:ByteArray) (l:List ByteArray):sp_pfits2 (ji0 k r L x y hd mo ti l)=some (ji1 k r L x y hd mo ti l):=jad _ injS (k,r,L,x,y,hd,mo,ti,l)
theorem jpf:Alias Tryz.prog E0 102 sp_pfits2:=Alias.of fun⟨k,r,L,x,y,hd,mo,ti,l⟩ hG=>TF.intro (V:=(VV [(41,conF [.agg [.any,.any,.sl .cell,.any,.any,.any,.any,.any,.sl .str]] sp_eright),(133,conF [.sl .cell,.any] sp_ctfn)] (.cons (jaa jba) (Fresh.soundF jeF) (.cons (jaa jat) (Fresh.soundF jpb) GOk.nil)) 17 0)) jeb rfl rfl (by
 dsimp only[ji0,ji1]at hG ⊢
 obtain⟨hs,ht⟩:=hG
 have hl:=hs.len
 have hl2:=hs.links
 repeat' first|exact hs|exact .inl rfl|exact .inr rfl|simp only[SA,seval,rdB,jaH,jhZ,bF1,bF2,jaO,jaw,jal]|refine tT ?_|refine Cos.intro [] [] rfl ?_|refine And.intro ?_ ?_|exact tC|(refine tI ?_;intro hyp)|intro hyp0|omega
 all_goals (rw[jpc];rfl))
theorem jpg:Fresh Tryz.prog E0 102 sp_pfits2:=Alias.fresh jpf (fun x=>rfl)
abbrev ji2 (k:Int) (r:Int) (L:List CD) (x:Int) (y:Int) (hd:Bool) (mo:Int) (ti:ByteArray) (l:List ByteArray):List CV:=[.agg [],.agg [.int .i64 k,.int .i64 r,.vec .cell L,.int .i64 x,.int .i64 y,.bool hd,.int .u8 mo,.str ti,.vec .str l]]
abbrev ji3 (k:Int) (r:Int) (L:List CD) (x:Int) (y:Int) (hd:Bool) (mo:Int) (ti:ByteArray) (l:List ByteArray):Prop×Res:=(ScrOk L l∧SLen ti,.ret (.bool (jm5 k r L x y mo ti l)))
noncomputable def sp_mfits1:Spec:=spOf (α:=Int×Int×(List CD)×Int×Int×Bool×Int×ByteArray×(List ByteArray)) (fun⟨k,r,L,x,y,hd,mo,ti,l⟩=>ji2 k r L x y hd mo ti l) fun⟨k,r,L,x,y,hd,mo,ti,l⟩=>ji3 k r L x y hd mo ti l
theorem jcj (k:Int) (r:Int) (L:List CD) (x:Int) (y:Int) (hd:Bool) (mo:Int) (ti:ByteArray) (l:List ByteArray):sp_mfits1 (ji2 k r L x y hd mo ti l)=some (ji3 k r L x y hd mo ti l):=jad _ injS (k,r,L,x,y,hd,mo,ti,l)
theorem jph:Alias Tryz.prog E0 46 sp_mfits1:=Alias.of fun⟨k,r,L,x,y,hd,mo,ti,l⟩ hG=>TF.intro (V:=(VV [(98,conF [.agg [.any,.any,.sl .cell,.any,.any,.any,.any,.any,.sl .str]] sp_pfits1)] (.cons (jaa jea) (Fresh.soundF jpe) GOk.nil) 7 0)) jcD rfl rfl (by
 dsimp only[ji2,ji3]at hG ⊢
 obtain⟨hs,ht⟩:=hG
 repeat' first|exact hs|simp only[SA,seval,rdB,jj2,bF1,bF2,jaO,jaw,jal]|refine tT ?_|refine Cos.intro [] [] rfl ?_|refine And.intro ?_ ?_|exact tC|(refine tI ?_;intro hyp)|intro hyp0|omega)
theorem jpi:Fresh Tryz.prog E0 46 sp_mfits1:=Alias.fresh jph (fun x=>rfl)
abbrev ji4 (k:Int) (r:Int) (L:List CD) (x:Int) (y:Int) (hd:Bool) (mo:Int) (ti:ByteArray) (l:List ByteArray):List CV:=[.agg [],.agg [.int .i64 k,.int .i64 r,.vec .cell L,.int .i64 x,.int .i64 y,.bool hd,.int .u8 mo,.str ti,.vec .str l]]
abbrev ji5 (k:Int) (r:Int) (L:List CD) (x:Int) (y:Int) (hd:Bool) (mo:Int) (ti:ByteArray) (l:List ByteArray):Prop×Res:=(ScrOk L l∧SLen ti,.ret (.bool (fits2 k r L x y mo ti l)))
noncomputable def sp_mfits2:Spec:=spOf (α:=Int×Int×(List CD)×Int×Int×Bool×Int×ByteArray×(List ByteArray)) (fun⟨k,r,L,x,y,hd,mo,ti,l⟩=>ji4 k r L x y hd mo ti l) fun⟨k,r,L,x,y,hd,mo,ti,l⟩=>ji5 k r L x y hd mo ti l
theorem jck (k:Int) (r:Int) (L:List CD) (x:Int) (y:Int) (hd:Bool) (mo:Int) (ti:ByteArray) (l:List ByteArray):sp_mfits2 (ji4 k r L x y hd mo ti l)=some (ji5 k r L x y hd mo ti l):=jad _ injS (k,r,L,x,y,hd,mo,ti,l)
theorem jpj:Alias Tryz.prog E0 50 sp_mfits2:=Alias.of fun⟨k,r,L,x,y,hd,mo,ti,l⟩ hG=>TF.intro (V:=(VV [(102,conF [.agg [.any,.any,.sl .cell,.any,.any,.any,.any,.any,.sl .str]] sp_pfits2)] (.cons (jaa jeb) (Fresh.soundF jpg) GOk.nil) 7 0)) jbj rfl rfl (by
 dsimp only[ji4,ji5]at hG ⊢
 obtain⟨hs,ht⟩:=hG
 repeat' first|exact hs|simp only[SA,seval,rdB,jj3,bF1,bF2,jaO,jaw,jal]|refine tT ?_|refine Cos.intro [] [] rfl ?_|refine And.intro ?_ ?_|exact tC|(refine tI ?_;intro hyp)|intro hyp0|omega)
theorem jpk:Fresh Tryz.prog E0 50 sp_mfits2:=Alias.fresh jpj (fun x=>rfl)
abbrev ji6 (k:Int) (r:Int) (L:List CD) (x:Int) (y:Int) (hd:Bool) (mo:Int) (ti:ByteArray) (l:List ByteArray):List CV:=[.agg [],.agg [.int .i64 k,.int .i64 r,.vec .cell L,.int .i64 x,.int .i64 y,.bool hd,.int .u8 mo,.str ti,.vec .str l]]
abbrev ji7 (k:Int) (r:Int) (L:List CD) (x:Int) (y:Int) (hd:Bool) (mo:Int) (ti:ByteArray) (l:List ByteArray):Prop×Res:=(ScrOk L l∧SLen ti,.ret (.bool (ja9 k r L x y mo ti l)))
noncomputable def sp_mfits3:Spec:=spOf (α:=Int×Int×(List CD)×Int×Int×Bool×Int×ByteArray×(List ByteArray)) (fun⟨k,r,L,x,y,hd,mo,ti,l⟩=>ji6 k r L x y hd mo ti l) fun⟨k,r,L,x,y,hd,mo,ti,l⟩=>ji7 k r L x y hd mo ti l
theorem jcl (k:Int) (r:Int) (L:List CD) (x:Int) (y:Int) (hd:Bool) (mo:Int) (ti:ByteArray) (l:List ByteArray):sp_mfits3 (ji6 k r L x y hd mo ti l)=some (ji7 k r L x y hd mo ti l):=jad _ injS (k,r,L,x,y,hd,mo,ti,l)
theorem jpl:Alias Tryz.prog E0 54 sp_mfits3:=Alias.of fun⟨k,r,L,x,y,hd,mo,ti,l⟩ hG=>TF.intro (V:=(VV [(41,conF [.agg [.any,.any,.sl .cell,.any,.any,.any,.any,.any,.sl .str]] sp_eright)] (.cons (jaa jba) (Fresh.soundF jeF) GOk.nil) 7 0)) jcE rfl rfl (by
 dsimp only[ji6,ji7]at hG ⊢
 obtain⟨hs,ht⟩:=hG
 repeat' first|exact hs|simp only[SA,seval,rdB,jaH,bF1,bF2,jaO,jaw,jal]|refine tT ?_|refine Cos.intro [] [] rfl ?_|refine And.intro ?_ ?_|exact tC|(refine tI ?_;intro hyp)|intro hyp0|omega)
theorem jpm:Fresh Tryz.prog E0 54 sp_mfits3:=Alias.fresh jpl (fun x=>rfl)
abbrev jsU (v:Int):List CV:=[.int .i64 v]
abbrev jsV (v:Int):Prop×Res:=(True,.ret (.tup [wayV v,.bool (decide (1≤v∧v≤3))]))
noncomputable def sp_dof:Spec:=spOf (α:=Int) (fun v=>jsU v) fun v=>jsV v
theorem jeG (v:Int):sp_dof (jsU v)=some (jsV v):=jad _ injS v
theorem jt1:Alias Tryz.prog E0 24 sp_dof:=Alias.of fun v hG=>TF.intro (V:=(VV [] GOk.nil 45 0)) jg4 rfl rfl (by
 dsimp only[jsU,jsV]at hG ⊢
 by_cases h1:v=1
 ·subst h1
  repeat' first|simp only[SA,seval,rdB,bF1,bF2,jaO,jaw,jal]|refine tT ?_|refine Cos.intro [] [] rfl ?_|refine And.intro ?_ ?_|exact tC|(refine tI ?_;intro hyp)|intro hyp0|omega
  all_goals simp[wayV,crs,crsL]
 by_cases h2:v=2
 ·subst h2
  repeat' first|simp only[SA,seval,rdB,bF1,bF2,jaO,jaw,jal]|refine tT ?_|refine Cos.intro [] [] rfl ?_|refine And.intro ?_ ?_|exact tC|(refine tI ?_;intro hyp)|intro hyp0|omega
  all_goals simp[wayV,crs,crsL]
 by_cases h3:v=3
 ·subst h3
  repeat' first|simp only[SA,seval,rdB,bF1,bF2,jaO,jaw,jal]|refine tT ?_|refine Cos.intro [] [] rfl ?_|refine And.intro ?_ ?_|exact tC|(refine tI ?_;intro hyp)|intro hyp0|omega
  all_goals simp[wayV,crs,crsL]
 repeat' first|simp only[SA,seval,rdB,bF1,bF2,jaO,jaw,jal]|refine tT ?_|refine Cos.intro [] [] rfl ?_|refine And.intro ?_ ?_|exact tC|(refine tI ?_;intro hyp)|intro hyp0|omega
 all_goals simp[wayV,h1,h2,h3,crs,crsL]
 omega)
abbrev jla (v:Int) (k:Int) (r:Int) (L:List CD) (x:Int) (y:Int) (hd:Bool) (mo:Int) (ti:ByteArray) (l:List ByteArray):List CV:=[.int .i64 v,.agg [.int .i64 k,.int .i64 r,.vec .cell L,.int .i64 x,.int .i64 y,.bool hd,.int .u8 mo,.str ti,.vec .str l]]
abbrev jlb (v:Int) (k:Int) (r:Int) (L:List CD) (x:Int) (y:Int) (hd:Bool) (mo:Int) (ti:ByteArray) (l:List ByteArray):Prop×Res:=(ScrOk L l∧SLen ti,.ret (.bool (jhw v k r L x y mo ti l)))
noncomputable def sp_dfits:Spec:=spOf (α:=Int×Int×Int×(List CD)×Int×Int×Bool×Int×ByteArray×(List ByteArray)) (fun⟨v,k,r,L,x,y,hd,mo,ti,l⟩=>jla v k r L x y hd mo ti l) fun⟨v,k,r,L,x,y,hd,mo,ti,l⟩=>jlb v k r L x y hd mo ti l
theorem jg5 (v:Int) (k:Int) (r:Int) (L:List CD) (x:Int) (y:Int) (hd:Bool) (mo:Int) (ti:ByteArray) (l:List ByteArray):sp_dfits (jla v k r L x y hd mo ti l)=some (jlb v k r L x y hd mo ti l):=jad _ injS (v,k,r,L,x,y,hd,mo,ti,l)
theorem jq3:Alias Tryz.prog E0 15 sp_dfits:=Alias.of fun⟨v,k,r,L,x,y,hd,mo,ti,l⟩ hG=>TF.intro (V:=(VV [(24,conA [.any] sp_dof),(46,conF [.any,.agg [.any,.any,.sl .cell,.any,.any,.any,.any,.any,.sl .str]] sp_mfits1),(50,conF [.any,.agg [.any,.any,.sl .cell,.any,.any,.any,.any,.any,.sl .str]] sp_mfits2),(54,conF [.any,.agg [.any,.any,.sl .cell,.any,.any,.any,.any,.any,.sl .str]] sp_mfits3)] (.cons (jaa jg4) (Alias.soundA jt1) (.cons (jaa jcD) (Fresh.soundF jpi) (.cons (jaa jbj) (Fresh.soundF jpk) (.cons (jaa jcE) (Fresh.soundF jpm) GOk.nil)))) 19 0)) jec rfl rfl (by
 dsimp only[jla,jlb]at hG ⊢
 obtain⟨hs,ht⟩:=hG
 by_cases h1:v=1
 ·subst h1
  have hw:wayV 1=_:=if_pos rfl
  repeat' first|exact hs|simp only[SA,seval,rdB,jeG,jcj,jck,jcl,bF1,bF2,jaO,jaw,jal]|simp only[hw]|simp only[hw2]|refine tT ?_|refine Cos.intro [] [] rfl ?_|refine And.intro ?_ ?_|exact tC|(refine tI ?_;intro hyp)|intro hyp0|omega
  simp[jhw]
 by_cases h2:v=2
 ·subst h2
  have hw:wayV 2=_:=(if_neg (by decide)).trans (if_pos rfl)
  repeat' first|exact hs|simp only[SA,seval,rdB,jeG,jcj,jck,jcl,bF1,bF2,jaO,jaw,jal]|simp only[hw]|simp only[hw2]|refine tT ?_|refine Cos.intro [] [] rfl ?_|refine And.intro ?_ ?_|exact tC|(refine tI ?_;intro hyp)|intro hyp0|omega
  simp[jhw]
 by_cases h3:v=3
 ·subst h3
  have hw:wayV 3=_:=(if_neg (by decide)).trans ((if_neg (by decide)).trans (if_pos rfl))
  repeat' first|exact hs|simp only[SA,seval,rdB,jeG,jcj,jck,jcl,bF1,bF2,jaO,jaw,jal]|simp only[hw]|simp only[hw2]|refine tT ?_|refine Cos.intro [] [] rfl ?_|refine And.intro ?_ ?_|exact tC|(refine tI ?_;intro hyp)|intro hyp0|omega
  simp[jhw]
 have hw:wayV v=_:=(if_neg h1).trans ((if_neg h2).trans (if_neg h3))
 have hw2:decide (1≤v∧v≤3)=false:=decide_eq_false (by omega)
 repeat' first|exact hs|simp only[SA,seval,rdB,jeG,jcj,jck,jcl,bF1,bF2,jaO,jaw,jal]|simp only[hw]|simp only[hw2]|refine tT ?_|refine Cos.intro [] [] rfl ?_|refine And.intro ?_ ?_|exact tC|(refine tI ?_;intro hyp)|intro hyp0|omega
 simp[jhw,h1,h2,h3])
theorem jq4:Fresh Tryz.prog E0 15 sp_dfits:=Alias.fresh jq3 (fun x=>rfl)
end
end Go.Proofs.YtienkkicehmchaaGreatDoor
