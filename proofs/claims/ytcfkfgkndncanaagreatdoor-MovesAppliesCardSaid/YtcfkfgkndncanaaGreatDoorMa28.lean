/- Texts of this claim, merged by a program of this claim: FScr. -/
import Derived.Test.YtcfkfgkndncanaaGreatDoorMa16
import Derived.Test.YtcfkfgkndncanaaGreatDoorMa24
import Derived.Test.YtcfkfgkndncanaaGreatDoorMa25
import Derived.Test.YtcfkfgkndncanaaGreatDoorMa27
namespace Go.Proofs.YtcfkfgkndncanaaGreatDoor
set_option linter.unusedVariables false
set_option linter.unusedSimpArgs false
section
open Go.RowKit
set_option maxRecDepth 100000
set_option maxHeartbeats 4000000
structure ScrOk (L:List CD) (l:List ByteArray):Prop where
 wf:∀c∈L,CWf c
 len:L.length≤60000
 links:l.length≤60000
 slen:∀s∈l,SLen s
theorem ScrOk.cw {L:List CD}{l:List ByteArray}(h:ScrOk L l):CWs L:=fun c hc=>(h.wf c hc).rune
theorem ScrOk.lk {L:List CD}{l:List ByteArray}(h:ScrOk L l):∀c∈L,0≤c.link∧c.link<65536:=fun c hc=>(h.wf c hc).link
theorem jwh {r:Int}(h:Utf.may r=true):I32 r:=by
 unfold Utf.may at h
 simp only[HB,ne_eq,reduceCtorEq]at h
 constructor<;>omega
theorem jmN {g lb t:Bool}{x k y r mo s:Int}(h:((((((g=false∨lb=false)∨x<0)∨k≤x)∨y<0)∨r≤y)∨2<mo)∨64<s):(g&&lb&&decide (0≤x)&&decide (x<k)&&decide (0≤y)&&decide (y<r)&&decide (mo≤2)&&decide (s≤64)&&t)=false:=by
 rw[Bool.eq_false_iff]
 intro hr
 simp only[HB,ne_eq,reduceCtorEq]at hr
 rcases h with ((((((h|h)|h)|h)|h)|h)|h)|h<;>first|omega|(rw[h]at hr;simp at hr)
theorem jAY (n:Nat):decide (n≤64)=decide ((n:Int)≤64):=decide_eq_decide.2 (by omega)
abbrev jof (k:Int) (r:Int) (L:List CD) (x:Int) (y:Int) (hd:Bool) (mo:Int) (ti:ByteArray) (l:List ByteArray):List CV:=[.agg [.int .i64 k,.int .i64 r,.vec .cell L,.int .i64 x,.int .i64 y,.bool hd,.int .u8 mo,.str ti,.vec .str l]]
abbrev jog (k:Int) (r:Int) (L:List CD) (x:Int) (y:Int) (hd:Bool) (mo:Int) (ti:ByteArray) (l:List ByteArray):Prop×Res:=(ScrOk L l∧SLen ti,.ret (.bool (jb5 k r L x y mo ti l)))
noncomputable def sp_eright:Spec:=spOf (α:=Int×Int×(List CD)×Int×Int×Bool×Int×ByteArray×(List ByteArray)) (fun⟨k,r,L,x,y,hd,mo,ti,l⟩=>jof k r L x y hd mo ti l) fun⟨k,r,L,x,y,hd,mo,ti,l⟩=>jog k r L x y hd mo ti l
theorem ja0 (k:Int) (r:Int) (L:List CD) (x:Int) (y:Int) (hd:Bool) (mo:Int) (ti:ByteArray) (l:List ByteArray):sp_eright (jof k r L x y hd mo ti l)=some (jog k r L x y hd mo ti l):=jaq _ injS (k,r,L,x,y,hd,mo,ti,l)
theorem jwi:Alias Tryz.prog E0 22 sp_eright:=Alias.of fun⟨k,r,L,x,y,hd,mo,ti,l⟩ hG=>TF.intro (V:=(VV [(56,conF [.agg [.any,.any,.sl .cell]] sp_gmay),(57,conF [.sl .cell,.sl .str] sp_lright),(58,conF [.sl (.int .u8)] sp_valid),(59,conF [.any] sp_width)] (.cons (jaa jgG) (Fresh.soundF jvJ) (.cons (jaa jfO) (Fresh.soundF jwe) (.cons (jaa jho) (Fresh.soundF jxZ) (.cons (jaa jeo) (Fresh.soundF jny) GOk.nil)))) 73 0)) jgh rfl rfl (by
 dsimp only[jof,jog]at hG ⊢
 obtain⟨hs,ht⟩:=hG
 have hl:=hs.len
 have hl2:=hs.links
 have hw:List.take ti.size (ja1 ti)=ja1 ti:=List.take_of_length_le (by rw[jgB];exact Nat.le_refl _)
 have hln:(ja1 ti).length=ti.size:=jgB ti
 repeat' first|exact hs.cw|exact hs.lk|exact hs.slen|exact jge ti|simp only[SA,seval,rdB,jef,jdO,jeq,ja3]|simp only[hw]|simp only[hw2]|simp only[hw3]|refine tT ?_|refine Cos.intro [] [] rfl ?_|refine And.intro ?_ ?_|exact tC|(refine tI ?_;intro hyp)|intro hyp0|omega
 ·have q:=hyp
  simp only[jb5,jg5,q,Bool.false_and,Bool.and_false]
 rename_i hq
 have hrb:jb5 k r L x y mo ti l=jg5 ti:=by
  obtain⟨⟨⟨⟨⟨⟨⟨q1,q2⟩,q3⟩,q4⟩,q5⟩,q6⟩,q7⟩,q8⟩:=hq
  rw[Bool.eq_iff_iff]
  simp only[jb5,HB,ne_eq,reduceCtorEq]
  exact⟨fun h=>h.2,fun h=>⟨⟨⟨⟨⟨⟨⟨⟨q1,q2⟩,by omega⟩,by omega⟩,by omega⟩,by omega⟩,by omega⟩,by omega⟩,h⟩⟩
 have hvb:=hyp
 obtain⟨rs,hrs,hti,hmay⟩:=jlh ti hvb
 have htb:jg5 ti=(List.range rs.length).all (fun i=>Utf.width (rs.getD i 0) != 0):=by rw[hrs];simp only[jg5,hvb,Bool.true_and]
 rw[hrb,htb]
 refine T.loop (fun j:Nat=>⟨[(66,.ptr 0 0 0)],[.iter ti ((rs.take j).flatMap Utf.enc).length]⟩) (fun j=>j≤rs.length∧∀i,i<j→(Utf.width (rs.getD i 0) != 0)=true) (fun j=>rs.length-j) 0 ⟨by omega,fun i hi=>by omega⟩ (Cos.intro [2] [] rfl (by simp only[SA,seval,rdB,jef,jdO,jeq,ja3];simp)) (fun j ⟨hj,hall⟩=>?_)
 by_cases hjl:j<rs.length
 ·obtain⟨d1,d2,d3⟩:=jqV ti rs hti hmay (jcT (d:=0) hjl)
  have hw:(((rs.take j).flatMap Utf.enc).length<ti.size)=True:=eq_true d1
  have hw2:=d3
  have hw3:((rs.take j).flatMap Utf.enc).length+(Utf8.decode ti ((rs.take j).flatMap Utf.enc).length).2=((rs.take (j+1)).flatMap Utf.enc).length:=by omega
  have hi32:=jwh (hmay _ (List.mem_of_getElem? (jcT (d:=0) hjl)))
  repeat' first|exact hi32|simp only[SA,seval,rdB,jef,jdO,jeq,ja3]|simp only[hw]|simp only[hw2]|simp only[hw3]|refine tT ?_|refine Cos.intro [] [] rfl ?_|refine And.intro ?_ ?_|exact tC|(refine tI ?_;intro hyp)|intro hyp0|omega
  ·exact (jcj hjl (by simpa using hyp)).symm
  ·exact⟨j+1,⟨by omega,jet (f:=fun i=>Utf.width (rs.getD i 0) != 0) (by simpa using hyp) hall⟩,by omega,Cos.intro [0] [] rfl (by (simp only[SA,seval,rdB,jef,jdO,jeq,ja3]<;>exact tE))⟩
 ·have hw:(((rs.take j).flatMap Utf.enc).length<ti.size)=False:=eq_false (by
   rw[List.take_of_length_le (by omega),←hti,hln]
   omega)
  repeat' first|simp only[SA,seval,rdB,jef,jdO,jeq,ja3]|simp only[hw]|simp only[hw2]|simp only[hw3]|refine tT ?_|refine Cos.intro [] [] rfl ?_|refine And.intro ?_ ?_|exact tC|(refine tI ?_;intro hyp)|intro hyp0|omega
  exact (jdl (by omega) hall).symm
 ·unfold jb5
  rw[jAY]
  exact (jmN hyp).symm)
theorem jwj:Fresh Tryz.prog E0 22 sp_eright:=Alias.fresh jwi (fun x=>rfl)
abbrev jiV (b:List Int):List CV:=[.vec (.int .u8) b]
abbrev jiW (b:List Int):Prop×Res:=((∀a∈b,Utf.Byte a)∧b.length≤100000000,.ret (.vec (.int .i32) (Utf.rrunes b)))
noncomputable def sp_r7runesT:Spec:=spOf (α:=(List Int)) (fun b=>jiV b) fun b=>jiW b
theorem jc4 (b:List Int):sp_r7runesT (jiV b)=some (jiW b):=jaq _ injS b
theorem jrc:Fresh Tryz.prog E0 45 sp_r7runesT:=Fresh.of fun b hG=>TF.intro (V:=(VV [(79,conA [.agg [.sl (.int .u8)],.any] sp_r7feed),(80,conA [.agg [.sl (.int .u8)]] sp_r7end)] (.cons (jaa jcK) (Alias.soundA jvb) (.cons (jaa jfg) (Alias.soundA jxW) GOk.nil)) 32 0)) jkU rfl rfl (by
 dsimp only[jiV,jiW]at hG ⊢
 obtain⟨hb,hl⟩:=hG
 repeat' first|simp only[SA,seval,rdB,jdL,jep]|refine tT ?_|refine And.intro ?_ ?_|exact tC|(refine tI ?_;intro hyp)|intro hyp0|omega
 refine T.loop (fun k:Nat=>⟨[(0,.vec (.int .u8) b),(3,.slice 0 0 1 (Utf.rtold [] (b.take k)).length (Utf.rtold [] (b.take k)).length),(4,.ptr 1 0 0),(10,.int .i64 b.length),(11,.int .i64 k)],[.seq (.int .i32) (Utf.rtold [] (b.take k)),.box [.vec (.int .u8) (Utf.rafter [] (b.take k))]]⟩) (fun k=>k≤b.length) (fun k=>b.length-k) 0 (by omega) (Cos.intro [0,1] [] rfl (by simp only[SA,seval,rdB,jdL,jep,Utf.rtold,Utf.rafter])) (fun k hk=>?_)
 have h1:=jqz (l:=b.take k) (fun a ha=>hb a (List.mem_of_mem_take ha))
 have h2:=jk1 hb k
 have h3:=jpn (b.take k) []
 have h4:=jpm (Utf.rafter [] (b.take k)) (b.getD k 0)
 have h5:=jva (Utf.rafter [] (b.take k))
 have h6:(b.take k).length≤k:=by simp;omega
 repeat' first|simp only[SA,seval,rdB,jdL,jep]|refine tT ?_|refine And.intro ?_ ?_|exact tC|(refine tI ?_;intro hyp)|intro hyp0|omega
 ·exact (h1.2 _ hyp).1
 ·exact (h1.2 _ hyp).2
 ·refine⟨k+1,by omega,by omega,Cos.intro [3,1] [] rfl ?_⟩
  have e:b.take (k+1)=b.take k++[b.getD k 0]:=jo8 (by omega)
  simp only[SA,seval,rdB,jdL,jep,e,jmx,jk5]
  simp
 ·have e:b.take k=b:=List.take_of_length_le (by omega)
  rw[e]
  exact Cos.intro [2] [] rfl (by simp only[Utf.rrunes];(simp only[SA,seval,rdB,jdL,jep]<;>exact tE)))
theorem jjT:∀rs:List Int,rs.length≤(rs.flatMap Utf.enc).length
 | []=>by simp
 | a::rs=>by
  have h1:=jjT rs
  have h2:=List.length_pos_iff.2 (Utf.enc_ne a)
  simp only[List.flatMap_cons,List.length_append,List.length_cons]
  omega
theorem jlA {k r:Int}{L:List CD}{x y mo:Int}{ti:ByteArray}{l:List ByteArray}(hs:ScrOk L l):jb5 k r L x y mo ti l=(jcI k r L&&jhs L l&&decide (0≤x)&&decide (x<k)&&decide (0≤y)&&decide (y<r)&&decide (mo≤2)&&decide (ti.size≤64)&&jg5 ti):=by
 unfold jb5
 rw[jx3 L l fun q hq=>(hs.lk q hq).1]
abbrev jiX (k:Int) (r:Int) (L:List CD) (x:Int) (y:Int) (hd:Bool) (mo:Int) (ti:ByteArray) (l:List ByteArray):List CV:=[.agg [.int .i64 k,.int .i64 r,.vec .cell L,.int .i64 x,.int .i64 y,.bool hd,.int .u8 mo,.str ti,.vec .str l]]
abbrev jiY (k:Int) (r:Int) (L:List CD) (x:Int) (y:Int) (hd:Bool) (mo:Int) (ti:ByteArray) (l:List ByteArray):Prop×Res:=(ScrOk L l∧SLen ti,.ret (.bool (jb5 k r L x y mo ti l)))
noncomputable def sp_r12right:Spec:=spOf (α:=Int×Int×(List CD)×Int×Int×Bool×Int×ByteArray×(List ByteArray)) (fun⟨k,r,L,x,y,hd,mo,ti,l⟩=>jiX k r L x y hd mo ti l) fun⟨k,r,L,x,y,hd,mo,ti,l⟩=>jiY k r L x y hd mo ti l
theorem jaA (k:Int) (r:Int) (L:List CD) (x:Int) (y:Int) (hd:Bool) (mo:Int) (ti:ByteArray) (l:List ByteArray):sp_r12right (jiX k r L x y hd mo ti l)=some (jiY k r L x y hd mo ti l):=jaq _ injS (k,r,L,x,y,hd,mo,ti,l)
theorem jrd:Alias Tryz.prog E0 15 sp_r12right:=Alias.of fun⟨k,r,L,x,y,hd,mo,ti,l⟩ hG=>TF.intro (V:=(VV [(42,conA [.agg [.any,.any,.sl .cell]] sp_rows),(43,conF [.sl .cell,.sl .str] sp_rlright),(44,conF [.sl (.int .u8)] sp_r7valid),(46,conF [.any] sp_r7width),(45,conF [.sl (.int .u8)] sp_r7runesT)] (.cons (jaa jmD) (Alias.soundA jzZ) (.cons (jaa jls) (Fresh.soundF jtC) (.cons (jaa jkV) (Fresh.soundF jtf) (.cons (jaa jfE) (Fresh.soundF jiG) (.cons (jaa jkU) (Fresh.soundF jrc) GOk.nil))))) 84 0)) jly rfl rfl (by
 dsimp only[jiX,jiY]at hG ⊢
 obtain⟨hs,ht⟩:=hG
 have hl:=hs.len
 have hl2:=hs.links
 have hw:List.take ti.size (ja1 ti)=ja1 ti:=List.take_of_length_le (by rw[jgB];exact Nat.le_refl _)
 have hln:(ja1 ti).length=ti.size:=jgB ti
 rw[jlA hs]
 repeat' first|exact hs.cw|exact hs.lk|exact hs.slen|exact jge ti|simp only[SA,seval,rdB,jfl,jdp,jdk,jai,jc4]|simp only[hw]|refine tT ?_|refine Cos.intro [] [] rfl ?_|refine And.intro ?_ ?_|exact tC|(refine tI ?_;intro hyp)|intro hyp0|omega
 ·rw[hyp]
  simp only[Bool.false_and]
 ·rw[jg5,hyp,Bool.false_and,Bool.and_false]
 ·rename_i hq
  have hvb:=hyp
  obtain⟨rs,hrs,hti,hmay⟩:=jlh ti hvb
  have hrr:Utf.rrunes (ja1 ti)=rs:=by rw[←Utf.runes_eq _ (jge ti),hrs]
  have htb:jg5 ti=(List.range rs.length).all (fun i=>Utf.width (rs.getD i 0) != 0):=by rw[hrs];simp only[jg5,hvb,Bool.true_and]
  have hrb:jb5 k r L x y mo ti l=jg5 ti:=by
   rw[jlA hs,Bool.eq_iff_iff]
   simp only[HB,ne_eq,reduceCtorEq]
   obtain⟨⟨⟨⟨⟨⟨q2,q3⟩,q4⟩,q5⟩,q6⟩,q7⟩,q8⟩:=hq
   exact⟨fun h=>h.2,fun h=>⟨⟨⟨⟨⟨⟨⟨⟨by assumption,q2⟩,by omega⟩,by omega⟩,by omega⟩,by omega⟩,by omega⟩,by omega⟩,h⟩⟩
  rw[←jlA hs,hrb,htb,hrr]
  have hrl:rs.length≤ti.size:=by
   have:=jjT rs
   rw[←hti,hln]at this
   exact this
  refine T.loop (fun j:Nat=>⟨[(5,.vec (.int .i32) rs),(73,.int .i64 rs.length),(74,.int .i64 j)],[]⟩) (fun j=>j≤rs.length∧∀i,i<j→(Utf.width (rs.getD i 0) != 0)=true) (fun j=>rs.length-j) 0 ⟨by omega,fun i hi=>by omega⟩ (Cos.intro [] [] rfl (by (simp only[SA,seval,rdB,jfl,jdp,jdk,jai,jc4]);first|done|(repeat' apply And.intro)<;>first|rfl|omega|simp)) (fun j ⟨hj,hall⟩=>?_)
  by_cases hjl:j<rs.length
  ·have hi32:=jwh (hmay _ (List.mem_of_getElem? (jcT (d:=0) hjl)))
   repeat' first|exact hi32|simp only[SA,seval,rdB,jfl,jdp,jdk,jai,jc4]|simp only[hw]|refine tT ?_|refine Cos.intro [] [] rfl ?_|refine And.intro ?_ ?_|exact tC|(refine tI ?_;intro hyp)|intro hyp0|omega
   ·exact (jcj hjl (by simpa using hyp)).symm
   ·exact⟨j+1,⟨by omega,jet (f:=fun i=>Utf.width (rs.getD i 0) != 0) (by simpa using hyp) hall⟩,by omega,Cos.intro [] [] rfl (by (simp only[SA,seval,rdB,jfl,jdp,jdk,jai,jc4]<;>exact tE))⟩
  ·repeat' first|simp only[SA,seval,rdB,jfl,jdp,jdk,jai,jc4]|simp only[hw]|refine tT ?_|refine Cos.intro [] [] rfl ?_|refine And.intro ?_ ?_|exact tC|(refine tI ?_;intro hyp)|intro hyp0|omega
   exact (jdl (by omega) hall).symm
 ·rw[jAY]
  exact (jmN (by simp_all)).symm)
theorem jre:Fresh Tryz.prog E0 15 sp_r12right:=Alias.fresh jrd (fun x=>rfl)
abbrev jrf (k:Int) (r:Int) (L:List CD) (x:Int) (y:Int) (hd:Bool) (mo:Int) (ti:ByteArray) (l:List ByteArray):List CV:=[.agg [.int .i64 k,.int .i64 r,.vec .cell L,.int .i64 x,.int .i64 y,.bool hd,.int .u8 mo,.str ti,.vec .str l]]
abbrev jrg (k:Int) (r:Int) (L:List CD) (x:Int) (y:Int) (hd:Bool) (mo:Int) (ti:ByteArray) (l:List ByteArray):Prop×Res:=(True,.ret (.bool (decide (3000<(L.length:Int)) || decide (1000<(ti.size:Int)) || decide (1000<(l.length:Int)))))
noncomputable def sp_great:Spec:=spOf (α:=Int×Int×(List CD)×Int×Int×Bool×Int×ByteArray×(List ByteArray)) (fun⟨k,r,L,x,y,hd,mo,ti,l⟩=>jrf k r L x y hd mo ti l) fun⟨k,r,L,x,y,hd,mo,ti,l⟩=>jrg k r L x y hd mo ti l
theorem jcn (k:Int) (r:Int) (L:List CD) (x:Int) (y:Int) (hd:Bool) (mo:Int) (ti:ByteArray) (l:List ByteArray):sp_great (jrf k r L x y hd mo ti l)=some (jrg k r L x y hd mo ti l):=jaq _ injS (k,r,L,x,y,hd,mo,ti,l)
theorem jyf:Alias Tryz.prog E0 7 sp_great:=Alias.of fun⟨k,r,L,x,y,hd,mo,ti,l⟩ hG=>TF.intro (V:=(VV [] GOk.nil 19 0)) jlz rfl rfl (by
 dsimp only[jrf,jrg]at hG ⊢
 repeat' first|simp only[SA,seval,rdB]|refine tT ?_|refine Cos.intro [] [] rfl ?_|refine And.intro ?_ ?_|exact tC|(refine tI ?_;intro hyp)|intro hyp0|omega)
theorem jyg:Fresh Tryz.prog E0 7 sp_great:=Alias.fresh jyf (fun x=>rfl)
abbrev jrh (k:Int) (r:Int) (L:List CD) (x:Int) (y:Int) (hd:Bool) (mo:Int) (ti:ByteArray) (l:List ByteArray):List CV:=[.agg [.int .i64 k,.int .i64 r,.vec .cell L,.int .i64 x,.int .i64 y,.bool hd,.int .u8 mo,.str ti,.vec .str l]]
abbrev jri (k:Int) (r:Int) (L:List CD) (x:Int) (y:Int) (hd:Bool) (mo:Int) (ti:ByteArray) (l:List ByteArray):Prop×Res:=(L.length≤1000000∧l.length≤1000000,.ret (.agg [.int .i64 k,.int .i64 r,.vec .cell L,.int .i64 x,.int .i64 y,.bool hd,.int .u8 mo,.str ti,.vec .str l]))
noncomputable def sp_scopy:Spec:=spOf (α:=Int×Int×(List CD)×Int×Int×Bool×Int×ByteArray×(List ByteArray)) (fun⟨k,r,L,x,y,hd,mo,ti,l⟩=>jrh k r L x y hd mo ti l) fun⟨k,r,L,x,y,hd,mo,ti,l⟩=>jri k r L x y hd mo ti l
theorem jaz (k:Int) (r:Int) (L:List CD) (x:Int) (y:Int) (hd:Bool) (mo:Int) (ti:ByteArray) (l:List ByteArray):sp_scopy (jrh k r L x y hd mo ti l)=some (jri k r L x y hd mo ti l):=jaq _ injS (k,r,L,x,y,hd,mo,ti,l)
theorem jsC:Fresh Tryz.prog E0 9 sp_scopy:=Fresh.of fun⟨k,r,L,x,y,hd,mo,ti,l⟩ hG=>TF.intro (V:=(VV [] GOk.nil 14 0)) jiU rfl rfl (by
 dsimp only[jrh,jri]at hG ⊢
 repeat' first|simp only[SA,seval,rdB]|refine tT ?_|refine And.intro ?_ ?_|exact tC|(refine tI ?_;intro hyp)|intro hyp0|omega
 exact Cos.intro [3,5] [] rfl (by (simp only[SA,seval,rdB]<;>exact tE)))
abbrev jrj (k:Int) (r:Int) (L:List CD) (x:Int) (y:Int) (hd:Bool) (mo:Int) (ti:ByteArray) (l:List ByteArray) (k':Int) (r':Int) (L':List CD) (x':Int) (y':Int) (hd':Bool) (mo':Int) (ti':ByteArray) (l':List ByteArray):List CV:=[.agg [.int .i64 k,.int .i64 r,.vec .cell L,.int .i64 x,.int .i64 y,.bool hd,.int .u8 mo,.str ti,.vec .str l],.agg [.int .i64 k',.int .i64 r',.vec .cell L',.int .i64 x',.int .i64 y',.bool hd',.int .u8 mo',.str ti',.vec .str l']]
abbrev jrk (k:Int) (r:Int) (L:List CD) (x:Int) (y:Int) (hd:Bool) (mo:Int) (ti:ByteArray) (l:List ByteArray) (k':Int) (r':Int) (L':List CD) (x':Int) (y':Int) (hd':Bool) (mo':Int) (ti':ByteArray) (l':List ByteArray):Prop×Res:=((L.length≤60000∧l.length≤60000)∧(L'.length≤60000∧l'.length≤60000),.ret (.bool (decide (k=k'∧r=r'∧L=L'∧x=x'∧y=y'∧hd=hd'∧mo=mo'∧ti=ti'∧l=l'))))
noncomputable def sp_ssame:Spec:=spOf (α:=Int×Int×(List CD)×Int×Int×Bool×Int×ByteArray×(List ByteArray)×Int×Int×(List CD)×Int×Int×Bool×Int×ByteArray×(List ByteArray)) (fun⟨k,r,L,x,y,hd,mo,ti,l,k',r',L',x',y',hd',mo',ti',l'⟩=>jrj k r L x y hd mo ti l k' r' L' x' y' hd' mo' ti' l') fun⟨k,r,L,x,y,hd,mo,ti,l,k',r',L',x',y',hd',mo',ti',l'⟩=>jrk k r L x y hd mo ti l k' r' L' x' y' hd' mo' ti' l'
theorem jco (k:Int) (r:Int) (L:List CD) (x:Int) (y:Int) (hd:Bool) (mo:Int) (ti:ByteArray) (l:List ByteArray) (k':Int) (r':Int) (L':List CD) (x':Int) (y':Int) (hd':Bool) (mo':Int) (ti':ByteArray) (l':List ByteArray):sp_ssame (jrj k r L x y hd mo ti l k' r' L' x' y' hd' mo' ti' l')=some (jrk k r L x y hd mo ti l k' r' L' x' y' hd' mo' ti' l'):=jaq _ injS (k,r,L,x,y,hd,mo,ti,l,k',r',L',x',y',hd',mo',ti',l')
theorem jyh:Alias Tryz.prog E0 13 sp_ssame:=Alias.of fun⟨k,r,L,x,y,hd,mo,ti,l,k',r',L',x',y',hd',mo',ti',l'⟩ hG=>TF.intro (V:=(VV [(40,conF [.sl .str,.sl .str] sp_rssame),(41,conF [.agg [.any,.any,.sl .cell],.agg [.any,.any,.sl .cell]] sp_rsameg)] (.cons (jaa jiS) (Fresh.soundF jpH) (.cons (jaa jmE) (Fresh.soundF jvL) GOk.nil)) 68 0)) jmM rfl rfl (by
 dsimp only[jrj,jrk]at hG ⊢
 repeat' first|simp only[SA,seval,rdB,jc9,jps]|refine tT ?_|refine Cos.intro [] [] rfl ?_|refine And.intro ?_ ?_|exact tC|(refine tI ?_;intro hyp)|intro hyp0|omega
 rw[Bool.eq_iff_iff]
 simp only[HB,ne_eq,reduceCtorEq]
 grind)
theorem jyi:Fresh Tryz.prog E0 13 sp_ssame:=Alias.fresh jyh (fun x=>rfl)
end
end Go.Proofs.YtcfkfgkndncanaaGreatDoor
