/- Texts of this claim, merged by a program of this claim: FScr. -/
import Derived.Test.YtcfkfgkndncanaaGreatDoorMs16
import Derived.Test.YtcfkfgkndncanaaGreatDoorMs24
import Derived.Test.YtcfkfgkndncanaaGreatDoorMs25
import Derived.Test.YtcfkfgkndncanaaGreatDoorMs27
namespace Go.Proofs.YtcfkfgkndncanaaGreatDoor
set_option linter.unusedVariables false
set_option linter.unusedSimpArgs false
section
open Go.RowKit
set_option maxRecDepth 100000
set_option maxHeartbeats 4000000
structure ScrOk (L:List CD) (l:List ByteArray):Prop where
 wf:∀c∈L,CWf c
 len:L.length≤60000
 links:l.length≤60000
 slen:∀s∈l,SLen s
theorem ScrOk.cw {L:List CD}{l:List ByteArray}(h:ScrOk L l):CWs L:=fun c hc=>(h.wf c hc).rune
theorem ScrOk.lk {L:List CD}{l:List ByteArray}(h:ScrOk L l):∀c∈L,0≤c.link∧c.link<65536:=fun c hc=>(h.wf c hc).link
theorem jwF {r:Int}(h:Utf.may r=true):I32 r:=by
 unfold Utf.may at h
 simp only[HB,ne_eq,reduceCtorEq]at h
 constructor<;>omega
theorem jmo {g lb t:Bool}{x k y r mo s:Int}(h:((((((g=false∨lb=false)∨x<0)∨k≤x)∨y<0)∨r≤y)∨2<mo)∨64<s):(g&&lb&&decide (0≤x)&&decide (x<k)&&decide (0≤y)&&decide (y<r)&&decide (mo≤2)&&decide (s≤64)&&t)=false:=by
 rw[Bool.eq_false_iff]
 intro hr
 simp only[HB,ne_eq,reduceCtorEq]at hr
 rcases h with ((((((h|h)|h)|h)|h)|h)|h)|h<;>first|omega|(rw[h]at hr;simp at hr)
theorem jCf (n:Nat):decide (n≤64)=decide ((n:Int)≤64):=decide_eq_decide.2 (by omega)
abbrev jnZ (k:Int) (r:Int) (L:List CD) (x:Int) (y:Int) (hd:Bool) (mo:Int) (ti:ByteArray) (l:List ByteArray):List CV:=[.agg [.int .i64 k,.int .i64 r,.vec .cell L,.int .i64 x,.int .i64 y,.bool hd,.int .u8 mo,.str ti,.vec .str l]]
abbrev jn0 (k:Int) (r:Int) (L:List CD) (x:Int) (y:Int) (hd:Bool) (mo:Int) (ti:ByteArray) (l:List ByteArray):Prop×Res:=(ScrOk L l∧SLen ti,.ret (.bool (ja6 k r L x y mo ti l)))
noncomputable def sp_eright:Spec:=spOf (α:=Int×Int×(List CD)×Int×Int×Bool×Int×ByteArray×(List ByteArray)) (fun⟨k,r,L,x,y,hd,mo,ti,l⟩=>jnZ k r L x y hd mo ti l) fun⟨k,r,L,x,y,hd,mo,ti,l⟩=>jn0 k r L x y hd mo ti l
theorem jaG (k:Int) (r:Int) (L:List CD) (x:Int) (y:Int) (hd:Bool) (mo:Int) (ti:ByteArray) (l:List ByteArray):sp_eright (jnZ k r L x y hd mo ti l)=some (jn0 k r L x y hd mo ti l):=jak _ injS (k,r,L,x,y,hd,mo,ti,l)
theorem jwG:Alias Tryz.prog E0 22 sp_eright:=Alias.of fun⟨k,r,L,x,y,hd,mo,ti,l⟩ hG=>TF.intro (V:=(VV [(56,conF [.agg [.any,.any,.sl .cell]] sp_gmay),(57,conF [.sl .cell,.sl .str] sp_lright),(58,conF [.sl (.int .u8)] sp_valid),(59,conF [.any] sp_width)] (.cons (jaa jgD) (Fresh.soundF jvQ) (.cons (jaa jfW) (Fresh.soundF jwC) (.cons (jaa jhd) (Fresh.soundF jyx) (.cons (jaa jer) (Fresh.soundF jnf) GOk.nil)))) 73 0)) jdV rfl rfl (by
 dsimp only[jnZ,jn0]at hG ⊢
 obtain⟨hs,ht⟩:=hG
 have hl:=hs.len
 have hl2:=hs.links
 have hw:List.take ti.size (jan ti)=jan ti:=List.take_of_length_le (by rw[jcd];exact Nat.le_refl _)
 have hln:(jan ti).length=ti.size:=jcd ti
 repeat' first|exact hs.cw|exact hs.lk|exact hs.slen|exact jfq ti|simp only[SA,seval,rdB,jej,jdT,jet,jaK]|simp only[hw]|simp only[hw2]|simp only[hw3]|refine tT ?_|refine Cos.intro [] [] rfl ?_|refine And.intro ?_ ?_|exact tC|(refine tI ?_;intro hyp)|intro hyp0|omega
 ·have q:=hyp
  simp only[ja6,jfr,q,Bool.false_and,Bool.and_false]
 rename_i hq
 have hrb:ja6 k r L x y mo ti l=jfr ti:=by
  obtain⟨⟨⟨⟨⟨⟨⟨q1,q2⟩,q3⟩,q4⟩,q5⟩,q6⟩,q7⟩,q8⟩:=hq
  rw[Bool.eq_iff_iff]
  simp only[ja6,HB,ne_eq,reduceCtorEq]
  exact⟨fun h=>h.2,fun h=>⟨⟨⟨⟨⟨⟨⟨⟨q1,q2⟩,by omega⟩,by omega⟩,by omega⟩,by omega⟩,by omega⟩,by omega⟩,h⟩⟩
 have hvb:=hyp
 obtain⟨rs,hrs,hti,hmay⟩:=jkG ti hvb
 have htb:jfr ti=(List.range rs.length).all (fun i=>Utf.width (rs.getD i 0) != 0):=by rw[hrs];simp only[jfr,hvb,Bool.true_and]
 rw[hrb,htb]
 refine T.loop (fun j:Nat=>⟨[(66,.ptr 0 0 0)],[.iter ti ((rs.take j).flatMap Utf.enc).length]⟩) (fun j=>j≤rs.length∧∀i,i<j→(Utf.width (rs.getD i 0) != 0)=true) (fun j=>rs.length-j) 0 ⟨by omega,fun i hi=>by omega⟩ (Cos.intro [2] [] rfl (by simp only[SA,seval,rdB,jej,jdT,jet,jaK];simp)) (fun j ⟨hj,hall⟩=>?_)
 by_cases hjl:j<rs.length
 ·obtain⟨d1,d2,d3⟩:=jqq ti rs hti hmay (jbH (d:=0) hjl)
  have hw:(((rs.take j).flatMap Utf.enc).length<ti.size)=True:=eq_true d1
  have hw2:=d3
  have hw3:((rs.take j).flatMap Utf.enc).length+(Utf8.decode ti ((rs.take j).flatMap Utf.enc).length).2=((rs.take (j+1)).flatMap Utf.enc).length:=by omega
  have hi32:=jwF (hmay _ (List.mem_of_getElem? (jbH (d:=0) hjl)))
  repeat' first|exact hi32|simp only[SA,seval,rdB,jej,jdT,jet,jaK]|simp only[hw]|simp only[hw2]|simp only[hw3]|refine tT ?_|refine Cos.intro [] [] rfl ?_|refine And.intro ?_ ?_|exact tC|(refine tI ?_;intro hyp)|intro hyp0|omega
  ·exact (jbW hjl (by simpa using hyp)).symm
  ·exact⟨j+1,⟨by omega,jew (f:=fun i=>Utf.width (rs.getD i 0) != 0) (by simpa using hyp) hall⟩,by omega,Cos.intro [0] [] rfl (by (simp only[SA,seval,rdB,jej,jdT,jet,jaK]<;>exact tE))⟩
 ·have hw:(((rs.take j).flatMap Utf.enc).length<ti.size)=False:=eq_false (by
   rw[List.take_of_length_le (by omega),←hti,hln]
   omega)
  repeat' first|simp only[SA,seval,rdB,jej,jdT,jet,jaK]|simp only[hw]|simp only[hw2]|simp only[hw3]|refine tT ?_|refine Cos.intro [] [] rfl ?_|refine And.intro ?_ ?_|exact tC|(refine tI ?_;intro hyp)|intro hyp0|omega
  exact (jdf (by omega) hall).symm
 ·unfold ja6
  rw[jCf]
  exact (jmo hyp).symm)
theorem jk7:Fresh Tryz.prog E0 22 sp_eright:=Alias.fresh jwG (fun x=>rfl)
abbrev jiG (b:List Int):List CV:=[.vec (.int .u8) b]
abbrev jiH (b:List Int):Prop×Res:=((∀a∈b,Utf.Byte a)∧b.length≤100000000,.ret (.vec (.int .i32) (Utf.rrunes b)))
noncomputable def sp_r7runesT:Spec:=spOf (α:=(List Int)) (fun b=>jiG b) fun b=>jiH b
theorem jcV (b:List Int):sp_r7runesT (jiG b)=some (jiH b):=jak _ injS b
theorem jqK:Fresh Tryz.prog E0 45 sp_r7runesT:=Fresh.of fun b hG=>TF.intro (V:=(VV [(79,conA [.agg [.sl (.int .u8)],.any] sp_r7feed),(80,conA [.agg [.sl (.int .u8)]] sp_r7end)] (.cons (jaa jcr) (Alias.soundA jvf) (.cons (jaa jfj) (Alias.soundA jyu) GOk.nil)) 32 0)) jkj rfl rfl (by
 dsimp only[jiG,jiH]at hG ⊢
 obtain⟨hb,hl⟩:=hG
 repeat' first|simp only[SA,seval,rdB,jdN,jes]|refine tT ?_|refine And.intro ?_ ?_|exact tC|(refine tI ?_;intro hyp)|intro hyp0|omega
 refine T.loop (fun k:Nat=>⟨[(0,.vec (.int .u8) b),(3,.slice 0 0 1 (Utf.rtold [] (b.take k)).length (Utf.rtold [] (b.take k)).length),(4,.ptr 1 0 0),(10,.int .i64 b.length),(11,.int .i64 k)],[.seq (.int .i32) (Utf.rtold [] (b.take k)),.box [.vec (.int .u8) (Utf.rafter [] (b.take k))]]⟩) (fun k=>k≤b.length) (fun k=>b.length-k) 0 (by omega) (Cos.intro [0,1] [] rfl (by simp only[SA,seval,rdB,jdN,jes,Utf.rtold,Utf.rafter])) (fun k hk=>?_)
 have h1:=jp2 (l:=b.take k) (fun a ha=>hb a (List.mem_of_mem_take ha))
 have h2:=jkq hb k
 have h3:=joM (b.take k) []
 have h4:=joL (Utf.rafter [] (b.take k)) (b.getD k 0)
 have h5:=jve (Utf.rafter [] (b.take k))
 have h6:(b.take k).length≤k:=by simp;omega
 repeat' first|simp only[SA,seval,rdB,jdN,jes]|refine tT ?_|refine And.intro ?_ ?_|exact tC|(refine tI ?_;intro hyp)|intro hyp0|omega
 ·exact (h1.2 _ hyp).1
 ·exact (h1.2 _ hyp).2
 ·refine⟨k+1,by omega,by omega,Cos.intro [3,1] [] rfl ?_⟩
  have e:b.take (k+1)=b.take k++[b.getD k 0]:=joy (by omega)
  simp only[SA,seval,rdB,jdN,jes,e,jl1,jku]
  simp
 ·have e:b.take k=b:=List.take_of_length_le (by omega)
  rw[e]
  exact Cos.intro [2] [] rfl (by simp only[Utf.rrunes];(simp only[SA,seval,rdB,jdN,jes]<;>exact tE)))
theorem jjd:∀rs:List Int,rs.length≤(rs.flatMap Utf.enc).length
 | []=>by simp
 | a::rs=>by
  have h1:=jjd rs
  have h2:=List.length_pos_iff.2 (Utf.enc_ne a)
  simp only[List.flatMap_cons,List.length_append,List.length_cons]
  omega
theorem jk8 {k r:Int}{L:List CD}{x y mo:Int}{ti:ByteArray}{l:List ByteArray}(hs:ScrOk L l):ja6 k r L x y mo ti l=(jbM k r L&&jhh L l&&decide (0≤x)&&decide (x<k)&&decide (0≤y)&&decide (y<r)&&decide (mo≤2)&&decide (ti.size≤64)&&jfr ti):=by
 unfold ja6
 rw[jyC L l fun q hq=>(hs.lk q hq).1]
abbrev jiI (k:Int) (r:Int) (L:List CD) (x:Int) (y:Int) (hd:Bool) (mo:Int) (ti:ByteArray) (l:List ByteArray):List CV:=[.agg [.int .i64 k,.int .i64 r,.vec .cell L,.int .i64 x,.int .i64 y,.bool hd,.int .u8 mo,.str ti,.vec .str l]]
abbrev jiJ (k:Int) (r:Int) (L:List CD) (x:Int) (y:Int) (hd:Bool) (mo:Int) (ti:ByteArray) (l:List ByteArray):Prop×Res:=(ScrOk L l∧SLen ti,.ret (.bool (ja6 k r L x y mo ti l)))
noncomputable def sp_r12right:Spec:=spOf (α:=Int×Int×(List CD)×Int×Int×Bool×Int×ByteArray×(List ByteArray)) (fun⟨k,r,L,x,y,hd,mo,ti,l⟩=>jiI k r L x y hd mo ti l) fun⟨k,r,L,x,y,hd,mo,ti,l⟩=>jiJ k r L x y hd mo ti l
theorem jbE (k:Int) (r:Int) (L:List CD) (x:Int) (y:Int) (hd:Bool) (mo:Int) (ti:ByteArray) (l:List ByteArray):sp_r12right (jiI k r L x y hd mo ti l)=some (jiJ k r L x y hd mo ti l):=jak _ injS (k,r,L,x,y,hd,mo,ti,l)
theorem jqL:Alias Tryz.prog E0 15 sp_r12right:=Alias.of fun⟨k,r,L,x,y,hd,mo,ti,l⟩ hG=>TF.intro (V:=(VV [(42,conA [.agg [.any,.any,.sl .cell]] sp_rows),(43,conF [.sl .cell,.sl .str] sp_rlright),(44,conF [.sl (.int .u8)] sp_r7valid),(46,conF [.any] sp_r7width),(45,conF [.sl (.int .u8)] sp_r7runesT)] (.cons (jaa jfn) (Alias.soundA jAW) (.cons (jaa jkZ) (Fresh.soundF jtB) (.cons (jaa jkk) (Fresh.soundF jte) (.cons (jaa jfK) (Fresh.soundF jip) (.cons (jaa jkj) (Fresh.soundF jqK) GOk.nil))))) 84 0)) jk5 rfl rfl (by
 dsimp only[jiI,jiJ]at hG ⊢
 obtain⟨hs,ht⟩:=hG
 have hl:=hs.len
 have hl2:=hs.links
 have hw:List.take ti.size (jan ti)=jan ti:=List.take_of_length_le (by rw[jcd];exact Nat.le_refl _)
 have hln:(jan ti).length=ti.size:=jcd ti
 rw[jk8 hs]
 repeat' first|exact hs.cw|exact hs.lk|exact hs.slen|exact jfq ti|simp only[SA,seval,rdB,jfp,jdj,jdd,jbT,jcV]|simp only[hw]|refine tT ?_|refine Cos.intro [] [] rfl ?_|refine And.intro ?_ ?_|exact tC|(refine tI ?_;intro hyp)|intro hyp0|omega
 ·rw[hyp]
  simp only[Bool.false_and]
 ·rw[jfr,hyp,Bool.false_and,Bool.and_false]
 ·rename_i hq
  have hvb:=hyp
  obtain⟨rs,hrs,hti,hmay⟩:=jkG ti hvb
  have hrr:Utf.rrunes (jan ti)=rs:=by rw[←Utf.runes_eq _ (jfq ti),hrs]
  have htb:jfr ti=(List.range rs.length).all (fun i=>Utf.width (rs.getD i 0) != 0):=by rw[hrs];simp only[jfr,hvb,Bool.true_and]
  have hrb:ja6 k r L x y mo ti l=jfr ti:=by
   rw[jk8 hs,Bool.eq_iff_iff]
   simp only[HB,ne_eq,reduceCtorEq]
   obtain⟨⟨⟨⟨⟨⟨q2,q3⟩,q4⟩,q5⟩,q6⟩,q7⟩,q8⟩:=hq
   exact⟨fun h=>h.2,fun h=>⟨⟨⟨⟨⟨⟨⟨⟨by assumption,q2⟩,by omega⟩,by omega⟩,by omega⟩,by omega⟩,by omega⟩,by omega⟩,h⟩⟩
  rw[←jk8 hs,hrb,htb,hrr]
  have hrl:rs.length≤ti.size:=by
   have:=jjd rs
   rw[←hti,hln]at this
   exact this
  refine T.loop (fun j:Nat=>⟨[(5,.vec (.int .i32) rs),(73,.int .i64 rs.length),(74,.int .i64 j)],[]⟩) (fun j=>j≤rs.length∧∀i,i<j→(Utf.width (rs.getD i 0) != 0)=true) (fun j=>rs.length-j) 0 ⟨by omega,fun i hi=>by omega⟩ (Cos.intro [] [] rfl (by (simp only[SA,seval,rdB,jfp,jdj,jdd,jbT,jcV]);first|done|(repeat' apply And.intro)<;>first|rfl|omega|simp)) (fun j ⟨hj,hall⟩=>?_)
  by_cases hjl:j<rs.length
  ·have hi32:=jwF (hmay _ (List.mem_of_getElem? (jbH (d:=0) hjl)))
   repeat' first|exact hi32|simp only[SA,seval,rdB,jfp,jdj,jdd,jbT,jcV]|simp only[hw]|refine tT ?_|refine Cos.intro [] [] rfl ?_|refine And.intro ?_ ?_|exact tC|(refine tI ?_;intro hyp)|intro hyp0|omega
   ·exact (jbW hjl (by simpa using hyp)).symm
   ·exact⟨j+1,⟨by omega,jew (f:=fun i=>Utf.width (rs.getD i 0) != 0) (by simpa using hyp) hall⟩,by omega,Cos.intro [] [] rfl (by (simp only[SA,seval,rdB,jfp,jdj,jdd,jbT,jcV]<;>exact tE))⟩
  ·repeat' first|simp only[SA,seval,rdB,jfp,jdj,jdd,jbT,jcV]|simp only[hw]|refine tT ?_|refine Cos.intro [] [] rfl ?_|refine And.intro ?_ ?_|exact tC|(refine tI ?_;intro hyp)|intro hyp0|omega
   exact (jdf (by omega) hall).symm
 ·rw[jCf]
  exact (jmo (by simp_all)).symm)
theorem jqM:Fresh Tryz.prog E0 15 sp_r12right:=Alias.fresh jqL (fun x=>rfl)
abbrev jqN (k:Int) (r:Int) (L:List CD) (x:Int) (y:Int) (hd:Bool) (mo:Int) (ti:ByteArray) (l:List ByteArray):List CV:=[.agg [.int .i64 k,.int .i64 r,.vec .cell L,.int .i64 x,.int .i64 y,.bool hd,.int .u8 mo,.str ti,.vec .str l]]
abbrev jqO (k:Int) (r:Int) (L:List CD) (x:Int) (y:Int) (hd:Bool) (mo:Int) (ti:ByteArray) (l:List ByteArray):Prop×Res:=(True,.ret (.bool (decide (3000<(L.length:Int)) || decide (1000<(ti.size:Int)) || decide (1000<(l.length:Int)))))
noncomputable def sp_great:Spec:=spOf (α:=Int×Int×(List CD)×Int×Int×Bool×Int×ByteArray×(List ByteArray)) (fun⟨k,r,L,x,y,hd,mo,ti,l⟩=>jqN k r L x y hd mo ti l) fun⟨k,r,L,x,y,hd,mo,ti,l⟩=>jqO k r L x y hd mo ti l
theorem jcD (k:Int) (r:Int) (L:List CD) (x:Int) (y:Int) (hd:Bool) (mo:Int) (ti:ByteArray) (l:List ByteArray):sp_great (jqN k r L x y hd mo ti l)=some (jqO k r L x y hd mo ti l):=jak _ injS (k,r,L,x,y,hd,mo,ti,l)
theorem jyP:Alias Tryz.prog E0 7 sp_great:=Alias.of fun⟨k,r,L,x,y,hd,mo,ti,l⟩ hG=>TF.intro (V:=(VV [] GOk.nil 19 0)) jk6 rfl rfl (by
 dsimp only[jqN,jqO]at hG ⊢
 repeat' first|simp only[SA,seval,rdB]|refine tT ?_|refine Cos.intro [] [] rfl ?_|refine And.intro ?_ ?_|exact tC|(refine tI ?_;intro hyp)|intro hyp0|omega)
theorem jyQ:Fresh Tryz.prog E0 7 sp_great:=Alias.fresh jyP (fun x=>rfl)
abbrev jqP (k:Int) (r:Int) (L:List CD) (x:Int) (y:Int) (hd:Bool) (mo:Int) (ti:ByteArray) (l:List ByteArray):List CV:=[.agg [.int .i64 k,.int .i64 r,.vec .cell L,.int .i64 x,.int .i64 y,.bool hd,.int .u8 mo,.str ti,.vec .str l]]
abbrev jqQ (k:Int) (r:Int) (L:List CD) (x:Int) (y:Int) (hd:Bool) (mo:Int) (ti:ByteArray) (l:List ByteArray):Prop×Res:=(L.length≤1000000∧l.length≤1000000,.ret (.agg [.int .i64 k,.int .i64 r,.vec .cell L,.int .i64 x,.int .i64 y,.bool hd,.int .u8 mo,.str ti,.vec .str l]))
noncomputable def sp_scopy:Spec:=spOf (α:=Int×Int×(List CD)×Int×Int×Bool×Int×ByteArray×(List ByteArray)) (fun⟨k,r,L,x,y,hd,mo,ti,l⟩=>jqP k r L x y hd mo ti l) fun⟨k,r,L,x,y,hd,mo,ti,l⟩=>jqQ k r L x y hd mo ti l
theorem jcE (k:Int) (r:Int) (L:List CD) (x:Int) (y:Int) (hd:Bool) (mo:Int) (ti:ByteArray) (l:List ByteArray):sp_scopy (jqP k r L x y hd mo ti l)=some (jqQ k r L x y hd mo ti l):=jak _ injS (k,r,L,x,y,hd,mo,ti,l)
theorem jyR:Fresh Tryz.prog E0 9 sp_scopy:=Fresh.of fun⟨k,r,L,x,y,hd,mo,ti,l⟩ hG=>TF.intro (V:=(VV [] GOk.nil 14 0)) jmm rfl rfl (by
 dsimp only[jqP,jqQ]at hG ⊢
 repeat' first|simp only[SA,seval,rdB]|refine tT ?_|refine And.intro ?_ ?_|exact tC|(refine tI ?_;intro hyp)|intro hyp0|omega
 exact Cos.intro [3,5] [] rfl (by (simp only[SA,seval,rdB]<;>exact tE)))
abbrev jqR (k:Int) (r:Int) (L:List CD) (x:Int) (y:Int) (hd:Bool) (mo:Int) (ti:ByteArray) (l:List ByteArray) (k':Int) (r':Int) (L':List CD) (x':Int) (y':Int) (hd':Bool) (mo':Int) (ti':ByteArray) (l':List ByteArray):List CV:=[.agg [.int .i64 k,.int .i64 r,.vec .cell L,.int .i64 x,.int .i64 y,.bool hd,.int .u8 mo,.str ti,.vec .str l],.agg [.int .i64 k',.int .i64 r',.vec .cell L',.int .i64 x',.int .i64 y',.bool hd',.int .u8 mo',.str ti',.vec .str l']]
abbrev jqS (k:Int) (r:Int) (L:List CD) (x:Int) (y:Int) (hd:Bool) (mo:Int) (ti:ByteArray) (l:List ByteArray) (k':Int) (r':Int) (L':List CD) (x':Int) (y':Int) (hd':Bool) (mo':Int) (ti':ByteArray) (l':List ByteArray):Prop×Res:=((L.length≤60000∧l.length≤60000)∧(L'.length≤60000∧l'.length≤60000),.ret (.bool (decide (k=k'∧r=r'∧L=L'∧x=x'∧y=y'∧hd=hd'∧mo=mo'∧ti=ti'∧l=l'))))
noncomputable def sp_ssame:Spec:=spOf (α:=Int×Int×(List CD)×Int×Int×Bool×Int×ByteArray×(List ByteArray)×Int×Int×(List CD)×Int×Int×Bool×Int×ByteArray×(List ByteArray)) (fun⟨k,r,L,x,y,hd,mo,ti,l,k',r',L',x',y',hd',mo',ti',l'⟩=>jqR k r L x y hd mo ti l k' r' L' x' y' hd' mo' ti' l') fun⟨k,r,L,x,y,hd,mo,ti,l,k',r',L',x',y',hd',mo',ti',l'⟩=>jqS k r L x y hd mo ti l k' r' L' x' y' hd' mo' ti' l'
theorem jcF (k:Int) (r:Int) (L:List CD) (x:Int) (y:Int) (hd:Bool) (mo:Int) (ti:ByteArray) (l:List ByteArray) (k':Int) (r':Int) (L':List CD) (x':Int) (y':Int) (hd':Bool) (mo':Int) (ti':ByteArray) (l':List ByteArray):sp_ssame (jqR k r L x y hd mo ti l k' r' L' x' y' hd' mo' ti' l')=some (jqS k r L x y hd mo ti l k' r' L' x' y' hd' mo' ti' l'):=jak _ injS (k,r,L,x,y,hd,mo,ti,l,k',r',L',x',y',hd',mo',ti',l')
theorem jyS:Alias Tryz.prog E0 13 sp_ssame:=Alias.of fun⟨k,r,L,x,y,hd,mo,ti,l,k',r',L',x',y',hd',mo',ti',l'⟩ hG=>TF.intro (V:=(VV [(40,conF [.sl .str,.sl .str] sp_rssame),(41,conF [.agg [.any,.any,.sl .cell],.agg [.any,.any,.sl .cell]] sp_rsameg)] (.cons (jaa jiF) (Fresh.soundF jo3) (.cons (jaa jl6) (Fresh.soundF jvS) GOk.nil)) 68 0)) jmn rfl rfl (by
 dsimp only[jqR,jqS]at hG ⊢
 repeat' first|simp only[SA,seval,rdB,jc3,joP]|refine tT ?_|refine Cos.intro [] [] rfl ?_|refine And.intro ?_ ?_|exact tC|(refine tI ?_;intro hyp)|intro hyp0|omega
 rw[Bool.eq_iff_iff]
 simp only[HB,ne_eq,reduceCtorEq]
 grind)
theorem jyT:Fresh Tryz.prog E0 13 sp_ssame:=Alias.fresh jyS (fun x=>rfl)
end
end Go.Proofs.YtcfkfgkndncanaaGreatDoor
