/- Texts of this claim, merged by a program of this claim: FScr. -/
import Derived.Test.YtienkkicehmchaaGreatDoorDa11
import Derived.Test.YtienkkicehmchaaGreatDoorDa19
import Derived.Test.YtienkkicehmchaaGreatDoorDa20
import Derived.Test.YtienkkicehmchaaGreatDoorDa22
namespace Go.Proofs.YtienkkicehmchaaGreatDoor
set_option linter.unusedVariables false
set_option linter.unusedSimpArgs false
section
open Go.RowKit
set_option maxRecDepth 100000
set_option maxHeartbeats 4000000
structure ScrOk (L:List CD) (l:List ByteArray):Prop where
 wf:∀c∈L,CWf c
 len:L.length≤60000
 links:l.length≤60000
 slen:∀s∈l,SLen s
theorem ScrOk.cw {L:List CD}{l:List ByteArray}(h:ScrOk L l):CWs L:=fun c hc=>(h.wf c hc).rune
theorem ScrOk.lk {L:List CD}{l:List ByteArray}(h:ScrOk L l):∀c∈L,0≤c.link∧c.link<65536:=fun c hc=>(h.wf c hc).link
theorem jo4 {r:Int}(h:Utf.may r=true):I32 r:=by
 unfold Utf.may at h
 simp only[HB,ne_eq,reduceCtorEq]at h
 constructor<;>omega
theorem jhY {g lb t:Bool}{x k y r mo s:Int}(h:((((((g=false∨lb=false)∨x<0)∨k≤x)∨y<0)∨r≤y)∨2<mo)∨64<s):(g&&lb&&decide (0≤x)&&decide (x<k)&&decide (0≤y)&&decide (y<r)&&decide (mo≤2)&&decide (s≤64)&&t)=false:=by
 rw[Bool.eq_false_iff]
 intro hr
 simp only[HB,ne_eq,reduceCtorEq]at hr
 rcases h with ((((((h|h)|h)|h)|h)|h)|h)|h<;>first|omega|(rw[h]at hr;simp at hr)
theorem jt0 (n:Nat):decide (n≤64)=decide ((n:Int)≤64):=decide_eq_decide.2 (by omega)
abbrev jiW (k:Int) (r:Int) (L:List CD) (x:Int) (y:Int) (hd:Bool) (mo:Int) (ti:ByteArray) (l:List ByteArray):List CV:=[.agg [.int .i64 k,.int .i64 r,.vec .cell L,.int .i64 x,.int .i64 y,.bool hd,.int .u8 mo,.str ti,.vec .str l]]
abbrev jiX (k:Int) (r:Int) (L:List CD) (x:Int) (y:Int) (hd:Bool) (mo:Int) (ti:ByteArray) (l:List ByteArray):Prop×Res:=(ScrOk L l∧SLen ti,.ret (.bool (ja9 k r L x y mo ti l)))
noncomputable def sp_eright:Spec:=spOf (α:=Int×Int×(List CD)×Int×Int×Bool×Int×ByteArray×(List ByteArray)) (fun⟨k,r,L,x,y,hd,mo,ti,l⟩=>jiW k r L x y hd mo ti l) fun⟨k,r,L,x,y,hd,mo,ti,l⟩=>jiX k r L x y hd mo ti l
theorem jaH (k:Int) (r:Int) (L:List CD) (x:Int) (y:Int) (hd:Bool) (mo:Int) (ti:ByteArray) (l:List ByteArray):sp_eright (jiW k r L x y hd mo ti l)=some (jiX k r L x y hd mo ti l):=jad _ injS (k,r,L,x,y,hd,mo,ti,l)
theorem jo5:Alias Tryz.prog E0 41 sp_eright:=Alias.of fun⟨k,r,L,x,y,hd,mo,ti,l⟩ hG=>TF.intro (V:=(VV [(92,conF [.agg [.any,.any,.sl .cell]] sp_gmay),(93,conF [.sl .cell,.sl .str] sp_lright),(94,conF [.sl (.int .u8)] sp_valid),(95,conF [.any] sp_width)] (.cons (jaa jfd) (Fresh.soundF jsK) (.cons (jaa jcW) (Fresh.soundF jo2) (.cons (jaa jd2) (Fresh.soundF jqI) (.cons (jaa jcQ) (Fresh.soundF jlZ) GOk.nil)))) 73 0)) jba rfl rfl (by
 dsimp only[jiW,jiX]at hG ⊢
 obtain⟨hs,ht⟩:=hG
 have hl:=hs.len
 have hl2:=hs.links
 have hw:List.take ti.size (jaf ti)=jaf ti:=List.take_of_length_le (by rw[jdu];exact Nat.le_refl _)
 have hln:(jaf ti).length=ti.size:=jdu ti
 repeat' first|exact hs.cw|exact hs.lk|exact hs.slen|exact jdi ti|simp only[SA,seval,rdB,jcB,jbB,jb4,jbo]|simp only[hw]|simp only[hw2]|simp only[hw3]|refine tT ?_|refine Cos.intro [] [] rfl ?_|refine And.intro ?_ ?_|exact tC|(refine tI ?_;intro hyp)|intro hyp0|omega
 ·have q:=hyp
  simp only[ja9,jdj,q,Bool.false_and,Bool.and_false]
 rename_i hq
 have hrb:ja9 k r L x y mo ti l=jdj ti:=by
  obtain⟨⟨⟨⟨⟨⟨⟨q1,q2⟩,q3⟩,q4⟩,q5⟩,q6⟩,q7⟩,q8⟩:=hq
  rw[Bool.eq_iff_iff]
  simp only[ja9,HB,ne_eq,reduceCtorEq]
  exact⟨fun h=>h.2,fun h=>⟨⟨⟨⟨⟨⟨⟨⟨q1,q2⟩,by omega⟩,by omega⟩,by omega⟩,by omega⟩,by omega⟩,by omega⟩,h⟩⟩
 have hvb:=hyp
 obtain⟨rs,hrs,hti,hmay⟩:=jgU ti hvb
 have htb:jdj ti=(List.range rs.length).all (fun i=>Utf.width (rs.getD i 0) != 0):=by rw[hrs];simp only[jdj,hvb,Bool.true_and]
 rw[hrb,htb]
 refine T.loop (fun j:Nat=>⟨[(66,.ptr 0 0 0)],[.iter ti ((rs.take j).flatMap Utf.enc).length]⟩) (fun j=>j≤rs.length∧∀i,i<j→(Utf.width (rs.getD i 0) != 0)=true) (fun j=>rs.length-j) 0 ⟨by omega,fun i hi=>by omega⟩ (Cos.intro [2] [] rfl (by simp only[SA,seval,rdB,jcB,jbB,jb4,jbo];simp)) (fun j ⟨hj,hall⟩=>?_)
 by_cases hjl:j<rs.length
 ·obtain⟨d1,d2,d3⟩:=jkY ti rs hti hmay (jbn (d:=0) hjl)
  have hw:(((rs.take j).flatMap Utf.enc).length<ti.size)=True:=eq_true d1
  have hw2:=d3
  have hw3:((rs.take j).flatMap Utf.enc).length+(Utf8.decode ti ((rs.take j).flatMap Utf.enc).length).2=((rs.take (j+1)).flatMap Utf.enc).length:=by omega
  have hi32:=jo4 (hmay _ (List.mem_of_getElem? (jbn (d:=0) hjl)))
  repeat' first|exact hi32|simp only[SA,seval,rdB,jcB,jbB,jb4,jbo]|simp only[hw]|simp only[hw2]|simp only[hw3]|refine tT ?_|refine Cos.intro [] [] rfl ?_|refine And.intro ?_ ?_|exact tC|(refine tI ?_;intro hyp)|intro hyp0|omega
  ·exact (jaD hjl (by simpa using hyp)).symm
  ·exact⟨j+1,⟨by omega,jb6 (f:=fun i=>Utf.width (rs.getD i 0) != 0) (by simpa using hyp) hall⟩,by omega,Cos.intro [0] [] rfl (by (simp only[SA,seval,rdB,jcB,jbB,jb4,jbo]<;>exact tE))⟩
 ·have hw:(((rs.take j).flatMap Utf.enc).length<ti.size)=False:=eq_false (by
   rw[List.take_of_length_le (by omega),←hti,hln]
   omega)
  repeat' first|simp only[SA,seval,rdB,jcB,jbB,jb4,jbo]|simp only[hw]|simp only[hw2]|simp only[hw3]|refine tT ?_|refine Cos.intro [] [] rfl ?_|refine And.intro ?_ ?_|exact tC|(refine tI ?_;intro hyp)|intro hyp0|omega
  exact (jbh (by omega) hall).symm
 ·unfold ja9
  rw[jt0]
  exact (jhY hyp).symm)
theorem jeF:Fresh Tryz.prog E0 41 sp_eright:=Alias.fresh jo5 (fun x=>rfl)
abbrev jff (b:List Int):List CV:=[.vec (.int .u8) b]
abbrev jfg (b:List Int):Prop×Res:=((∀a∈b,Utf.Byte a)∧b.length≤100000000,.ret (.vec (.int .i32) (Utf.rrunes b)))
noncomputable def sp_r7runesT:Spec:=spOf (α:=(List Int)) (fun b=>jff b) fun b=>jfg b
theorem ja4 (b:List Int):sp_r7runesT (jff b)=some (jfg b):=jad _ injS b
theorem jk3:Fresh Tryz.prog E0 39 sp_r7runesT:=Fresh.of fun b hG=>TF.intro (V:=(VV [(88,conA [.agg [.sl (.int .u8)],.any] sp_r7feed),(89,conA [.agg [.sl (.int .u8)]] sp_r7end)] (.cons (jaa jaN) (Alias.soundA joa) (.cons (jaa jcy) (Alias.soundA jqF) GOk.nil)) 32 0)) jgv rfl rfl (by
 dsimp only[jff,jfg]at hG ⊢
 obtain⟨hb,hl⟩:=hG
 repeat' first|simp only[SA,seval,rdB,jbw,jb3]|refine tT ?_|refine And.intro ?_ ?_|exact tC|(refine tI ?_;intro hyp)|intro hyp0|omega
 refine T.loop (fun k:Nat=>⟨[(0,.vec (.int .u8) b),(3,.slice 0 0 1 (Utf.rtold [] (b.take k)).length (Utf.rtold [] (b.take k)).length),(4,.ptr 1 0 0),(10,.int .i64 b.length),(11,.int .i64 k)],[.seq (.int .i32) (Utf.rtold [] (b.take k)),.box [.vec (.int .u8) (Utf.rafter [] (b.take k))]]⟩) (fun k=>k≤b.length) (fun k=>b.length-k) 0 (by omega) (Cos.intro [0,1] [] rfl (by simp only[SA,seval,rdB,jbw,jb3,Utf.rtold,Utf.rafter])) (fun k hk=>?_)
 have h1:=jkF (l:=b.take k) (fun a ha=>hb a (List.mem_of_mem_take ha))
 have h2:=jgC hb k
 have h3:=jjO (b.take k) []
 have h4:=jjN (Utf.rafter [] (b.take k)) (b.getD k 0)
 have h5:=jn9 (Utf.rafter [] (b.take k))
 have h6:(b.take k).length≤k:=by simp;omega
 repeat' first|simp only[SA,seval,rdB,jbw,jb3]|refine tT ?_|refine And.intro ?_ ?_|exact tC|(refine tI ?_;intro hyp)|intro hyp0|omega
 ·exact (h1.2 _ hyp).1
 ·exact (h1.2 _ hyp).2
 ·refine⟨k+1,by omega,by omega,Cos.intro [3,1] [] rfl ?_⟩
  have e:b.take (k+1)=b.take k++[b.getD k 0]:=jn5 (by omega)
  simp only[SA,seval,rdB,jbw,jb3,e,jhO,jgG]
  simp
 ·have e:b.take k=b:=List.take_of_length_le (by omega)
  rw[e]
  exact Cos.intro [2] [] rfl (by simp only[Utf.rrunes];(simp only[SA,seval,rdB,jbw,jb3]<;>exact tE)))
theorem jfJ:∀rs:List Int,rs.length≤(rs.flatMap Utf.enc).length
 | []=>by simp
 | a::rs=>by
  have h1:=jfJ rs
  have h2:=List.length_pos_iff.2 (Utf.enc_ne a)
  simp only[List.flatMap_cons,List.length_append,List.length_cons]
  omega
theorem jg3 {k r:Int}{L:List CD}{x y mo:Int}{ti:ByteArray}{l:List ByteArray}(hs:ScrOk L l):ja9 k r L x y mo ti l=(jb9 k r L&&jd5 L l&&decide (0≤x)&&decide (x<k)&&decide (0≤y)&&decide (y<r)&&decide (mo≤2)&&decide (ti.size≤64)&&jdj ti):=by
 unfold ja9
 rw[jqN L l fun q hq=>(hs.lk q hq).1]
abbrev jfh (k:Int) (r:Int) (L:List CD) (x:Int) (y:Int) (hd:Bool) (mo:Int) (ti:ByteArray) (l:List ByteArray):List CV:=[.agg [.int .i64 k,.int .i64 r,.vec .cell L,.int .i64 x,.int .i64 y,.bool hd,.int .u8 mo,.str ti,.vec .str l]]
abbrev jfi (k:Int) (r:Int) (L:List CD) (x:Int) (y:Int) (hd:Bool) (mo:Int) (ti:ByteArray) (l:List ByteArray):Prop×Res:=(ScrOk L l∧SLen ti,.ret (.bool (ja9 k r L x y mo ti l)))
noncomputable def sp_r12right:Spec:=spOf (α:=Int×Int×(List CD)×Int×Int×Bool×Int×ByteArray×(List ByteArray)) (fun⟨k,r,L,x,y,hd,mo,ti,l⟩=>jfh k r L x y hd mo ti l) fun⟨k,r,L,x,y,hd,mo,ti,l⟩=>jfi k r L x y hd mo ti l
theorem jdM (k:Int) (r:Int) (L:List CD) (x:Int) (y:Int) (hd:Bool) (mo:Int) (ti:ByteArray) (l:List ByteArray):sp_r12right (jfh k r L x y hd mo ti l)=some (jfi k r L x y hd mo ti l):=jad _ injS (k,r,L,x,y,hd,mo,ti,l)
theorem jk4:Alias Tryz.prog E0 20 sp_r12right:=Alias.of fun⟨k,r,L,x,y,hd,mo,ti,l⟩ hG=>TF.intro (V:=(VV [(36,conA [.agg [.any,.any,.sl .cell]] sp_rows),(37,conF [.sl .cell,.sl .str] sp_rlright),(38,conF [.sl (.int .u8)] sp_r7valid),(40,conF [.any] sp_r7width),(39,conF [.sl (.int .u8)] sp_r7runesT)] (.cons (jaa jhU) (Alias.soundA jsL) (.cons (jaa jgX) (Fresh.soundF jm3) (.cons (jaa jgw) (Fresh.soundF jmK) (.cons (jaa jd1) (Fresh.soundF jhM) (.cons (jaa jgv) (Fresh.soundF jk3) GOk.nil))))) 84 0)) jg2 rfl rfl (by
 dsimp only[jfh,jfi]at hG ⊢
 obtain⟨hs,ht⟩:=hG
 have hl:=hs.len
 have hl2:=hs.links
 have hw:List.take ti.size (jaf ti)=jaf ti:=List.take_of_length_le (by rw[jdu];exact Nat.le_refl _)
 have hln:(jaf ti).length=ti.size:=jdu ti
 rw[jg3 hs]
 repeat' first|exact hs.cw|exact hs.lk|exact hs.slen|exact jdi ti|simp only[SA,seval,rdB,jcC,jbi,jbg,jaV,ja4]|simp only[hw]|refine tT ?_|refine Cos.intro [] [] rfl ?_|refine And.intro ?_ ?_|exact tC|(refine tI ?_;intro hyp)|intro hyp0|omega
 ·rw[hyp]
  simp only[Bool.false_and]
 ·rw[jdj,hyp,Bool.false_and,Bool.and_false]
 ·rename_i hq
  have hvb:=hyp
  obtain⟨rs,hrs,hti,hmay⟩:=jgU ti hvb
  have hrr:Utf.rrunes (jaf ti)=rs:=by rw[←Utf.runes_eq _ (jdi ti),hrs]
  have htb:jdj ti=(List.range rs.length).all (fun i=>Utf.width (rs.getD i 0) != 0):=by rw[hrs];simp only[jdj,hvb,Bool.true_and]
  have hrb:ja9 k r L x y mo ti l=jdj ti:=by
   rw[jg3 hs,Bool.eq_iff_iff]
   simp only[HB,ne_eq,reduceCtorEq]
   obtain⟨⟨⟨⟨⟨⟨q2,q3⟩,q4⟩,q5⟩,q6⟩,q7⟩,q8⟩:=hq
   exact⟨fun h=>h.2,fun h=>⟨⟨⟨⟨⟨⟨⟨⟨by assumption,q2⟩,by omega⟩,by omega⟩,by omega⟩,by omega⟩,by omega⟩,by omega⟩,h⟩⟩
  rw[←jg3 hs,hrb,htb,hrr]
  have hrl:rs.length≤ti.size:=by
   have:=jfJ rs
   rw[←hti,hln]at this
   exact this
  refine T.loop (fun j:Nat=>⟨[(5,.vec (.int .i32) rs),(73,.int .i64 rs.length),(74,.int .i64 j)],[]⟩) (fun j=>j≤rs.length∧∀i,i<j→(Utf.width (rs.getD i 0) != 0)=true) (fun j=>rs.length-j) 0 ⟨by omega,fun i hi=>by omega⟩ (Cos.intro [] [] rfl (by (simp only[SA,seval,rdB,jcC,jbi,jbg,jaV,ja4]);first|done|(repeat' apply And.intro)<;>first|rfl|omega|simp)) (fun j ⟨hj,hall⟩=>?_)
  by_cases hjl:j<rs.length
  ·have hi32:=jo4 (hmay _ (List.mem_of_getElem? (jbn (d:=0) hjl)))
   repeat' first|exact hi32|simp only[SA,seval,rdB,jcC,jbi,jbg,jaV,ja4]|simp only[hw]|refine tT ?_|refine Cos.intro [] [] rfl ?_|refine And.intro ?_ ?_|exact tC|(refine tI ?_;intro hyp)|intro hyp0|omega
   ·exact (jaD hjl (by simpa using hyp)).symm
   ·exact⟨j+1,⟨by omega,jb6 (f:=fun i=>Utf.width (rs.getD i 0) != 0) (by simpa using hyp) hall⟩,by omega,Cos.intro [] [] rfl (by (simp only[SA,seval,rdB,jcC,jbi,jbg,jaV,ja4]<;>exact tE))⟩
  ·repeat' first|simp only[SA,seval,rdB,jcC,jbi,jbg,jaV,ja4]|simp only[hw]|refine tT ?_|refine Cos.intro [] [] rfl ?_|refine And.intro ?_ ?_|exact tC|(refine tI ?_;intro hyp)|intro hyp0|omega
   exact (jbh (by omega) hall).symm
 ·rw[jt0]
  exact (jhY (by simp_all)).symm)
theorem jk5:Fresh Tryz.prog E0 20 sp_r12right:=Alias.fresh jk4 (fun x=>rfl)
end
end Go.Proofs.YtienkkicehmchaaGreatDoor
