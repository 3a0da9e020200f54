/- Texts of this claim, merged by a program of this claim: FLawA. -/
import Derived.Test.YtcfkfgkndncanaaGreatDoorMa35
import Derived.Test.YtcfkfgkndncanaaGreatDoorMa39
import Derived.Test.YtcfkfgkndncanaaGreatDoorMa48
namespace Go.Proofs.YtcfkfgkndncanaaGreatDoor
set_option linter.unusedVariables false
set_option linter.unusedSimpArgs false
section
open Go.RowKit
set_option maxRecDepth 100000
set_option maxHeartbeats 8000000
abbrev jwY (k:Int) (r:Int) (L:List CD) (x:Int) (y:Int) (hd:Bool) (mo:Int) (ti:ByteArray) (l:List ByteArray) (d:List Int):List CV:=[.agg [.int .i64 k,.int .i64 r,.vec .cell L,.int .i64 x,.int .i64 y,.bool hd,.int .u8 mo,.str ti,.vec .str l],.vec (.int .u8) d]
abbrev jwZ (k:Int) (r:Int) (L:List CD) (x:Int) (y:Int) (hd:Bool) (mo:Int) (ti:ByteArray) (l:List ByteArray) (d:List Int):Prop×Res:=(((∀c∈L,CWf c)∧SLen ti∧(∀s∈l,SLen s)∧0≤mo)∧Bts d,.ret (.bool true))
noncomputable def sp_lawA:Spec:=spOf (α:=Int×Int×(List CD)×Int×Int×Bool×Int×ByteArray×(List ByteArray)×(List Int)) (fun⟨k,r,L,x,y,hd,mo,ti,l,d⟩=>jwY k r L x y hd mo ti l d) fun⟨k,r,L,x,y,hd,mo,ti,l,d⟩=>jwZ k r L x y hd mo ti l d
theorem jtL (k:Int) (r:Int) (L:List CD) (x:Int) (y:Int) (hd:Bool) (mo:Int) (ti:ByteArray) (l:List ByteArray) (d:List Int):sp_lawA (jwY k r L x y hd mo ti l d)=some (jwZ k r L x y hd mo ti l d):=jaq _ injS (k,r,L,x,y,hd,mo,ti,l,d)
theorem jAi:Alias Tryz.prog E0 3 sp_lawA:=Alias.of fun⟨k,r,L,x,y,hd,mo,ti,l,d⟩ hG=>TF.intro (V:=(VV [(7,conF [.agg [.any,.any,.sl .cell,.any,.any,.any,.any,.any,.sl .str]] sp_great),(8,conF [] sp_fixedE),(9,conF [.agg [.any,.any,.sl .cell,.any,.any,.any,.any,.any,.sl .str]] sp_scopy),(10,conF [.sl (.int .u8)] sp_bcopy),(11,conT [.agg [.any,.any,.sl .cell,.any,.any,.any,.any,.any,.sl .str],.sl (.int .u8)] sp_applyQ),(12,conA [.agg [.any,.any,.sl .cell,.any,.any,.any,.any,.any,.sl .str],.sl (.int .u8)] sp_r8apply),(13,conF [.agg [.any,.any,.sl .cell,.any,.any,.any,.any,.any,.sl .str],.agg [.any,.any,.sl .cell,.any,.any,.any,.any,.any,.sl .str]] sp_ssame),(14,conF [.sl (.int .u8),.sl (.int .u8)] sp_bsame)] (.cons (jaa jlz) (Fresh.soundF jyg) (.cons (jaa jlN) (Fresh.soundF jwL) (.cons (jaa jiU) (Fresh.soundF jsC) (.cons (jaa jiA) (Fresh.soundF jsP) (.cons (jkL jic) (Fresh.soundT jwT) (.cons (jaa jlX) (Alias.soundA jtK) (.cons (jaa jmM) (Fresh.soundF jyi) (.cons (jaa jiR) (Fresh.soundF jyb) GOk.nil)))))))) 91 0)) jid rfl rfl (by
 dsimp only[jwY,jwZ]at hG ⊢
 obtain⟨⟨hwf,ht,hsl,hmo⟩,hb⟩:=hG
 by_cases hgt:((3000<(L.length:Int)∨1000<(ti.size:Int))∨1000<(l.length:Int))∨65536<(d.length:Int)
 ·repeat' first|simp only[SA,seval,rdB,jcn,jb1,jaz,jbZ,jb2,jbV,jco,jcm]|simp only[hw]|simp only[hw2]|refine tT ?_|refine Cos.intro [] [] rfl ?_|refine And.intro ?_ ?_|exact tC|(refine tI ?_;intro hyp)|intro hyp0|omega
  all_goals (exfalso;omega)
 have g1:¬3000<(L.length:Int):=by omega
 have g2:¬1000<(ti.size:Int):=by omega
 have g3:¬1000<(l.length:Int):=by omega
 have g4:¬65536<(d.length:Int):=by omega
 have hsc:ScrOk L l:=⟨hwf,by omega,by omega,hsl⟩
 have hdl:d.length≤1000000:=by omega
 have hLl:L.length≤1000000:=by omega
 have hll:l.length≤1000000:=by omega
 have hLl2:L.length≤60000:=by omega
 have hll2:l.length≤60000:=by omega
 obtain⟨e,R,hR⟩:∃(e:Int) (R:RS),apG d ⟨k,r,L,x,y,hd,mo,ti,l,[],0⟩=(e,R):=⟨_,_,rfl⟩
 have hlen:R.L.length≤60000∧R.more.length≤60000∧∀s∈R.more,s.size≤64:=by
  by_cases h:(apG d ⟨k,r,L,x,y,hd,mo,ti,l,[],0⟩).1=0
  ·have:=jwJ (s:=⟨k,r,L,x,y,hd,mo,ti,l,[],0⟩) hdl hb hsc ht h
   rw[hR]at this
   have h1:=this.1
   unfold jb5 at h1
   simp only[Bool.and_eq_true]at h1
   exact⟨this.2.1.len,this.2.1.links,fun s hs=>jtu (jlm h1.1.1.1.1.1.1.1.2 s hs)⟩
  ·have:=jyo h
   rw[hR]at this
   simp only at this
   subst this
   exact⟨by decide,by decide,fun s hs=>by cases hs⟩
 obtain⟨hl1,hl2,hl3⟩:=hlen
 have hw:=hR
 repeat' first|exact hsc|exact hdl|exact hLl|exact hll|exact hb|exact ht|exact hwf _ ‹_›|simp only[SA,seval,rdB,jcn,jb1,jaz,jbZ,jb2,jbV,jco,jcm]|simp only[hw]|simp only[hw2]|refine tT ?_|refine And.intro ?_ ?_|exact tC|(refine tI ?_;intro hyp)|intro hyp0|omega
 clear hw
 refine T.loop (fun q:Nat×List CD=>⟨[(1,.vec (.int .u8) d),(2,.ptr 0 0 0),(5,.ptr 1 0 0),(6,.vec (.int .u8) d),(7,.ptr 2 0 0),(52,.int .i64 R.L.length),(53,.int .i64 q.1)],[.box [.int .i64 k,.int .i64 r,.vec .cell L,.int .i64 x,.int .i64 y,.bool hd,.int .u8 mo,.str ti,.vec .str l],.box [.int .i64 k,.int .i64 r,.vec .cell L,.int .i64 x,.int .i64 y,.bool hd,.int .u8 mo,.str ti,.vec .str l],.box [.int .i64 R.k,.int .i64 R.r,.slice 3 0 6 R.L.length R.L.length,.int .i64 R.x,.int .i64 R.y,.bool R.hd,.int .u8 R.mo,.str R.ti,.slice 4 0 1 R.more.length R.more.length],.seq .cell q.2,.seq .str R.more]⟩) (fun q=>q.1≤R.L.length∧q.2.length=R.L.length) (fun q=>R.L.length-q.1) (0,R.L) ⟨Nat.zero_le _,rfl⟩ (Cos.intro [0,1,4,2,3] [] rfl (by (simp only[SA,seval,rdB,jcn,jb1,jaz,jbZ,jb2,jbV,jco,jcm]<;>exact tE))) (fun q hq=>?_)
 obtain⟨i,C⟩:=q
 obtain⟨hi,hC⟩:=hq
 dsimp only at hi hC
 by_cases hin:i<R.L.length
 ·have hw:=hC
  repeat' first|simp only[SA,seval,rdB,jcn,jb1,jaz,jbZ,jb2,jbV,jco,jcm]|simp only[hw]|simp only[hw2]|refine tT ?_|refine And.intro ?_ ?_|exact tC|(refine tI ?_;intro hyp)|intro hyp0|omega
  exact⟨(i+1,C.set i { C.getD i default with rune:=IntKind.i32.wrap ((C.getD i default).rune+1) }),⟨by dsimp only;omega,by simp[hC]⟩,by dsimp only;omega,Cos.intro [0,1,2,3,4] [] rfl (by (simp only[SA,seval,rdB,jcn,jb1,jaz,jbZ,jb2,jbV,jco,jcm]<;>exact tE))⟩
 ·have hw:=hC
  repeat' first|simp only[SA,seval,rdB,jcn,jb1,jaz,jbZ,jb2,jbV,jco,jcm]|simp only[hw]|simp only[hw2]|refine tT ?_|refine And.intro ?_ ?_|exact tC|(refine tI ?_;intro hyp)|intro hyp0|omega
  refine T.loop (fun q:Nat×List ByteArray=>⟨[(1,.vec (.int .u8) d),(2,.ptr 0 0 0),(5,.ptr 1 0 0),(6,.vec (.int .u8) d),(7,.ptr 2 0 0),(68,.int .i64 R.more.length),(69,.int .i64 q.1)],[.box [.int .i64 k,.int .i64 r,.vec .cell L,.int .i64 x,.int .i64 y,.bool hd,.int .u8 mo,.str ti,.vec .str l],.box [.int .i64 k,.int .i64 r,.vec .cell L,.int .i64 x,.int .i64 y,.bool hd,.int .u8 mo,.str ti,.vec .str l],.box [.int .i64 R.k,.int .i64 R.r,.slice 3 0 6 R.L.length R.L.length,.int .i64 R.x,.int .i64 R.y,.bool R.hd,.int .u8 R.mo,.str R.ti,.slice 4 0 1 R.more.length R.more.length],.seq .cell C,.seq .str q.2]⟩) (fun q=>q.1≤R.more.length∧q.2.length=R.more.length∧∀j,q.1≤j→q.2[j]?=R.more[j]?) (fun q=>R.more.length-q.1) (0,R.more) ⟨Nat.zero_le _,rfl,fun _ _=>rfl⟩ (Cos.intro [0,1,2,3,4] [] rfl (by (simp only[SA,seval,rdB,jcn,jb1,jaz,jbZ,jb2,jbV,jco,jcm]<;>exact tE))) (fun q hq=>?_)
  obtain⟨m,M⟩:=q
  obtain⟨hm,hM,hsame⟩:=hq
  dsimp only at hm hM hsame
  by_cases hmn:m<R.more.length
  ·have hw2:=hM
   have hsz:(M.getD m ETy.str.dflt).size+(bs [120]).size≤9223372036854775807:=by
    have e:=hsame m (Nat.le_refl _)
    have e2:=jcT (L:=M) (k:=m) (d:=ETy.str.dflt) (by omega)
    rw[e2]at e
    have:=hl3 _ (List.mem_of_getElem? e.symm)
    have:(bs [120]).size=1:=rfl
    omega
   repeat' first|exact hsz|simp only[SA,seval,rdB,jcn,jb1,jaz,jbZ,jb2,jbV,jco,jcm]|simp only[hw]|simp only[hw2]|refine tT ?_|refine And.intro ?_ ?_|exact tC|(refine tI ?_;intro hyp)|intro hyp0|omega
   exact⟨(m+1,M.set m (M.getD m ETy.str.dflt++bs [120])),⟨by dsimp only;omega,by dsimp only;rw[List.length_set];exact hM,fun j hj=>by
    dsimp only at hj ⊢
    rw[List.getElem?_set_ne (by omega)]
    exact hsame j (by omega)⟩,by dsimp only;omega,Cos.intro [0,1,2,3,4] [] rfl (by (simp only[SA,seval,rdB,jcn,jb1,jaz,jbZ,jb2,jbV,jco,jcm]<;>exact tE))⟩
  ·have hw2:=hM
   repeat' first|exact⟨hLl2,hll2⟩|exact hLl2|exact hll2|simp only[SA,seval,rdB,jcn,jb1,jaz,jbZ,jb2,jbV,jco,jcm]|simp only[hw]|simp only[hw2]|refine tT ?_|refine Cos.intro [] [] rfl ?_|refine And.intro ?_ ?_|exact tC|(refine tI ?_;intro hyp)|intro hyp0|omega
   all_goals trace_state
   all_goals sorry)
end
end Go.Proofs.YtcfkfgkndncanaaGreatDoor
