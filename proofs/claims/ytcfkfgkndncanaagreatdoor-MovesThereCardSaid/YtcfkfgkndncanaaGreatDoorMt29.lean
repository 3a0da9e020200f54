/- Texts of this claim, merged by a program of this claim: FScr. -/
import Derived.Test.YtcfkfgkndncanaaGreatDoorMt16
import Derived.Test.YtcfkfgkndncanaaGreatDoorMt25
import Derived.Test.YtcfkfgkndncanaaGreatDoorMt26
import Derived.Test.YtcfkfgkndncanaaGreatDoorMt28
namespace Go.Proofs.YtcfkfgkndncanaaGreatDoor
set_option linter.unusedVariables false
set_option linter.unusedSimpArgs false
section
open Go.RowKit
set_option maxRecDepth 100000
set_option maxHeartbeats 4000000
structure ScrOk (L:List CD) (l:List ByteArray):Prop where
 wf:∀ c∈L,CWf c
 len:L.length≤60000
 links:l.length≤60000
 slen:∀ s∈l,SLen s
theorem ScrOk.cw {L:List CD} {l:List ByteArray} (h:ScrOk L l):CWs L:=fun c hc=>(h.wf c hc).rune
theorem ScrOk.lk {L:List CD} {l:List ByteArray} (h:ScrOk L l):∀ c∈L,0≤c.link∧c.link < 65536:=fun c hc=>(h.wf c hc).link
theorem jsn {r:Int} (h:Utf.may r=true):I32 r:=by
 unfold Utf.may at h
 simp only [HB,ne_eq,reduceCtorEq] at h
 constructor <;> omega
theorem jk1 {g lb t:Bool} {x k y r mo s:Int} (h:((((((g=false∨lb=false)∨x < 0)∨k≤x)∨y < 0)∨r≤y)∨2 < mo)∨64 < s):(g && lb && decide (0≤x) && decide (x < k) && decide (0≤y) && decide (y < r) && decide (mo≤2) && decide (s≤64) && t)=false:=by
 rw [Bool.eq_false_iff]
 intro hr
 simp only [HB,ne_eq,reduceCtorEq] at hr
 rcases h with ((((((h|h)|h)|h)|h)|h)|h)|h <;> first | omega | (rw [h] at hr; simp at hr)
theorem jw4 (n:Nat):decide (n≤64)=decide ((n:Int)≤64):=decide_eq_decide.2 (by omega)
noncomputable def sp_eright:Spec:=spOf (α:=Int × Int × (List CD) × Int × Int × Bool × Int × ByteArray × (List ByteArray)) (fun ⟨k,r,L,x,y,hd,mo,ti,l⟩=>[.agg [.int .i64 k,.int .i64 r,.vec .cell L,.int .i64 x,.int .i64 y,.bool hd,.int .u8 mo,.str ti,.vec .str l]]) fun ⟨k,r,L,x,y,hd,mo,ti,l⟩=>(ScrOk L l∧SLen ti,.ret (.bool (ja0 k r L x y mo ti l)))
theorem jaH (k:Int) (r:Int) (L:List CD) (x:Int) (y:Int) (hd:Bool) (mo:Int) (ti:ByteArray) (l:List ByteArray):sp_eright [.agg [.int .i64 k,.int .i64 r,.vec .cell L,.int .i64 x,.int .i64 y,.bool hd,.int .u8 mo,.str ti,.vec .str l]]=some (ScrOk L l∧SLen ti,.ret (.bool (ja0 k r L x y mo ti l))):=jar (α:=Int × Int × (List CD) × Int × Int × Bool × Int × ByteArray × (List ByteArray)) _ (fun ⟨k,r,L,x,y,hd,mo,ti,l⟩ ⟨k',r',L',x',y',hd',mo',ti',l'⟩ h=>by first | simpa [CP] using h | (simp [CP] at h ⊢; grind)) (k,r,L,x,y,hd,mo,ti,l)
theorem jso:Alias Tryz.prog E0 22 sp_eright:=Alias.of fun ⟨k,r,L,x,y,hd,mo,ti,l⟩ hG=>TF.intro (V:=(VV [(56,conF [.agg [.any,.any,.sl .cell]] sp_gmay),(57,conF [.sl .cell,.sl .str] sp_lright),(58,conF [.sl (.int .u8)] sp_valid),(59,conF [.any] sp_width)] (.cons (jaa jgf) (Fresh.soundF jrL) (.cons (jaa jfs) (Fresh.soundF jsk) (.cons (jaa jgQ) (Fresh.soundF jtP) (.cons (jaa jd7) (Fresh.soundF jlJ) GOk.nil)))) 73 0)) jdE rfl rfl (by
 dsimp only at hG ⊢
 obtain ⟨hs,ht⟩:=hG
 have hl:=hs.len
 have hl2:=hs.links
 have hw:List.take ti.size (jao ti)=jao ti:=List.take_of_length_le (by rw [jb4]; exact Nat.le_refl _)
 have hln:(jao ti).length=ti.size:=jb4 ti
 repeat' first | exact hs.cw | exact hs.lk | exact hs.slen | exact jeY ti | simp only [SB,E,seval,rdB,ne_eq,implies_true,jdZ,jdC,jd9,jaM] | simp only [hw] | simp only [hw2] | simp only [hw3] | refine T.seq ?_ | refine T.stm ?_ | refine T.rg ?_ | refine jac ?_ | refine jad ?_ | refine jae ?_ | refine T.cond ?_ | refine T.skip ?_ | refine T.ret ?_ | refine T.exit ?_ | refine T.block ?_ | refine Cos.intro [] [] rfl ?_ | refine And.intro ?_ ?_ | (intro p0; have hyp:=p0; (try simp only [HB,ne_eq,reduceCtorEq] at hyp); (try simp only [p0]); (try clear p0); try (exfalso; omega; done)) | omega
 ·have q:=hyp
  simp only [ja0,jfV,q,Bool.false_and,Bool.and_false]
 rename_i hq
 have hrb:ja0 k r L x y mo ti l=jfV ti:=by
  obtain ⟨⟨⟨⟨⟨⟨⟨q1,q2⟩,q3⟩,q4⟩,q5⟩,q6⟩,q7⟩,q8⟩:=hq
  rw [Bool.eq_iff_iff]
  simp only [ja0,HB,ne_eq,reduceCtorEq]
  exact ⟨fun h=>h.2,fun h=>⟨⟨⟨⟨⟨⟨⟨⟨q1,q2⟩,by omega⟩,by omega⟩,by omega⟩,by omega⟩,by omega⟩,by omega⟩,h⟩⟩
 have hvb:=hyp
 obtain ⟨rs,hrs,hti,hmay⟩:=jjD ti hvb
 have htb:jfV ti=(List.range rs.length).all (fun i=>Utf.width (rs.getD i 0) != 0):=by rw [hrs]; simp only [jfV,hvb,Bool.true_and]
 rw [hrb,htb]
 refine T.loop (fun j:Nat=>⟨[(66,.ptr 0 0 0)],[.iter ti ((rs.take j).flatMap Utf.enc).length]⟩) (fun j=>j≤rs.length∧∀ i,i < j→(Utf.width (rs.getD i 0) != 0)=true) (fun j=>rs.length - j) 0 ⟨by omega,fun i hi=>by omega⟩ (Cos.intro [2] [] rfl (by simp only [SB,E,seval,rdB,ne_eq,implies_true,jdZ,jdC,jd9,jaM]; simp)) (fun j ⟨hj,hall⟩=>?_)
 by_cases hjl:j < rs.length
 ·obtain ⟨d1,d2,d3⟩:=jnx ti rs hti hmay (jbU (d:=0) hjl)
  have hw:(((rs.take j).flatMap Utf.enc).length < ti.size)=True:=eq_true d1
  have hw2:=d3
  have hw3:((rs.take j).flatMap Utf.enc).length+(Utf8.decode ti ((rs.take j).flatMap Utf.enc).length).2=((rs.take (j+1)).flatMap Utf.enc).length:=by omega
  have hi32:=jsn (hmay _ (List.mem_of_getElem? (jbU (d:=0) hjl)))
  repeat' first | exact hi32 | simp only [SB,E,seval,rdB,ne_eq,implies_true,jdZ,jdC,jd9,jaM] | simp only [hw] | simp only [hw2] | simp only [hw3] | refine T.seq ?_ | refine T.stm ?_ | refine T.rg ?_ | refine jac ?_ | refine jad ?_ | refine jae ?_ | refine T.cond ?_ | refine T.skip ?_ | refine T.ret ?_ | refine T.exit ?_ | refine T.block ?_ | refine Cos.intro [] [] rfl ?_ | refine And.intro ?_ ?_ | (intro p0; have hyp:=p0; (try simp only [HB,ne_eq,reduceCtorEq] at hyp); (try simp only [p0]); (try clear p0); try (exfalso; omega; done)) | omega
  ·exact (jbQ hjl (by simpa using hyp)).symm
  ·exact ⟨j+1,⟨by omega,jeb (f:=fun i=>Utf.width (rs.getD i 0) != 0) (by simpa using hyp) hall⟩,by omega,Cos.intro [0] [] rfl (by (simp only [SB,E,seval,rdB,ne_eq,implies_true,jdZ,jdC,jd9,jaM]; first | done | ((repeat' apply And.intro) <;> first | rfl | omega | (simp; done) | (simp; omega))))⟩
 ·have hw:(((rs.take j).flatMap Utf.enc).length < ti.size)=False:=eq_false (by
   rw [List.take_of_length_le (by omega),← hti,hln]
   omega)
  repeat' first | simp only [SB,E,seval,rdB,ne_eq,implies_true,jdZ,jdC,jd9,jaM] | simp only [hw] | simp only [hw2] | simp only [hw3] | refine T.seq ?_ | refine T.stm ?_ | refine T.rg ?_ | refine jac ?_ | refine jad ?_ | refine jae ?_ | refine T.cond ?_ | refine T.skip ?_ | refine T.ret ?_ | refine T.exit ?_ | refine T.block ?_ | refine Cos.intro [] [] rfl ?_ | refine And.intro ?_ ?_ | (intro p0; have hyp:=p0; (try simp only [HB,ne_eq,reduceCtorEq] at hyp); (try simp only [p0]); (try clear p0); try (exfalso; omega; done)) | omega
  exact (jcX (by omega) hall).symm
 ·unfold ja0
  rw [jw4]
  exact (jk1 hyp).symm)
theorem jj0:Fresh Tryz.prog E0 22 sp_eright:=Alias.fresh jso (fun x=>rfl)
noncomputable def sp_r7runesT:Spec:=spOf (α:=(List Int)) (fun b=>[.vec (.int .u8) b]) fun b=>((∀ a∈b,Utf.Byte a)∧b.length≤100000000,.ret (.vec (.int .i32) (Utf.rrunes b)))
theorem jcH (b:List Int):sp_r7runesT [.vec (.int .u8) b]=some ((∀ a∈b,Utf.Byte a)∧b.length≤100000000,.ret (.vec (.int .i32) (Utf.rrunes b))):=jar (α:=(List Int)) _ (fun b b' h=>by first | simpa [CP] using h | (simp [CP] at h ⊢; grind)) b
theorem jnO:Fresh Tryz.prog E0 45 sp_r7runesT:=Fresh.of fun b hG=>TF.intro (V:=(VV [(79,conA [.agg [.sl (.int .u8)],.any] sp_r7feed),(80,conA [.agg [.sl (.int .u8)]] sp_r7end)] (.cons (jaa jcg) (Alias.soundA jrw) (.cons (jaa jeR) (Alias.soundA jtM) GOk.nil)) 32 0)) jjq rfl rfl (by
 dsimp only at hG ⊢
 obtain ⟨hb,hl⟩:=hG
 repeat' first | simp only [SB,E,seval,rdB,ne_eq,implies_true,jdu,jd8] | apply tA | apply tB | apply tC | apply tD | apply tE | apply tF | apply tG | apply tH | apply tI | apply tJ | apply tK | apply And.intro | (intro p0; have hyp:=p0; (try simp only [HB,ne_eq,reduceCtorEq] at hyp); (try simp only [p0]); (try clear p0); try (exfalso; omega; done)) | omega
 refine T.loop (fun k:Nat=>⟨[(0,.vec (.int .u8) b),(3,.slice 0 0 1 (Utf.rtold [] (b.take k)).length (Utf.rtold [] (b.take k)).length),(4,.ptr 1 0 0),(10,.int .i64 b.length),(11,.int .i64 k)],[.seq (.int .i32) (Utf.rtold [] (b.take k)),.box [.vec (.int .u8) (Utf.rafter [] (b.take k))]]⟩) (fun k=>k≤b.length) (fun k=>b.length - k) 0 (by omega) (Cos.intro [0,1] [] rfl (by simp only [SB,E,seval,rdB,ne_eq,implies_true,jdu,jd8,Utf.rtold,Utf.rafter])) (fun k hk=>?_)
 have h1:=jns (l:=b.take k) (fun a ha=>hb a (List.mem_of_mem_take ha))
 have h2:=jjv hb k
 have h3:=jmz (b.take k) []
 have h4:=jmy (Utf.rafter [] (b.take k)) (b.getD k 0)
 have h5:=jrv (Utf.rafter [] (b.take k))
 have h6:(b.take k).length≤k:=by simp; omega
 repeat' first | simp only [SB,E,seval,rdB,ne_eq,implies_true,jdu,jd8] | apply tA | apply tB | apply tC | apply tD | apply tE | apply tF | apply tG | apply tH | apply tI | apply tJ | apply tK | apply And.intro | (intro p0; have hyp:=p0; (try simp only [HB,ne_eq,reduceCtorEq] at hyp); (try simp only [p0]); (try clear p0); try (exfalso; omega; done)) | omega
 ·exact (h1.2 _ hyp).1
 ·exact (h1.2 _ hyp).2
 ·refine ⟨k+1,by omega,by omega,Cos.intro [3,1] [] rfl ?_⟩
  have e:b.take (k+1)=b.take k++[b.getD k 0]:=jqY (by omega)
  simp only [SB,E,seval,rdB,ne_eq,implies_true,jdu,jd8,e,jkJ,jjx]
  simp
 ·have e:b.take k=b:=List.take_of_length_le (by omega)
  rw [e]
  exact Cos.intro [2] [] rfl (by simp only [Utf.rrunes]; (simp only [SB,E,seval,rdB,ne_eq,implies_true,jdu,jd8]; first | done | ((repeat' apply And.intro) <;> first | rfl | omega | (simp; done) | (simp; omega)))))
theorem jiq:∀ rs:List Int,rs.length≤(rs.flatMap Utf.enc).length
 | []=>by simp
 | a :: rs=>by
  have h1:=jiq rs
  have h2:=List.length_pos_iff.2 (Utf.enc_ne a)
  simp only [List.flatMap_cons,List.length_append,List.length_cons]
  omega
theorem jj1 {k r:Int} {L:List CD} {x y mo:Int} {ti:ByteArray} {l:List ByteArray} (hs:ScrOk L l):ja0 k r L x y mo ti l=(jbN k r L && jfT L l && decide (0≤x) && decide (x < k) && decide (0≤y) && decide (y < r) && decide (mo≤2) && decide (ti.size≤64) && jfV ti):=by
 unfold ja0
 rw [jtV L l fun q hq=>(hs.lk q hq).1]
noncomputable def sp_r12right:Spec:=spOf (α:=Int × Int × (List CD) × Int × Int × Bool × Int × ByteArray × (List ByteArray)) (fun ⟨k,r,L,x,y,hd,mo,ti,l⟩=>[.agg [.int .i64 k,.int .i64 r,.vec .cell L,.int .i64 x,.int .i64 y,.bool hd,.int .u8 mo,.str ti,.vec .str l]]) fun ⟨k,r,L,x,y,hd,mo,ti,l⟩=>(ScrOk L l∧SLen ti,.ret (.bool (ja0 k r L x y mo ti l)))
theorem jdk (k:Int) (r:Int) (L:List CD) (x:Int) (y:Int) (hd:Bool) (mo:Int) (ti:ByteArray) (l:List ByteArray):sp_r12right [.agg [.int .i64 k,.int .i64 r,.vec .cell L,.int .i64 x,.int .i64 y,.bool hd,.int .u8 mo,.str ti,.vec .str l]]=some (ScrOk L l∧SLen ti,.ret (.bool (ja0 k r L x y mo ti l))):=jar (α:=Int × Int × (List CD) × Int × Int × Bool × Int × ByteArray × (List ByteArray)) _ (fun ⟨k,r,L,x,y,hd,mo,ti,l⟩ ⟨k',r',L',x',y',hd',mo',ti',l'⟩ h=>by first | simpa [CP] using h | (simp [CP] at h ⊢; grind)) (k,r,L,x,y,hd,mo,ti,l)
theorem jnP:Alias Tryz.prog E0 15 sp_r12right:=Alias.of fun ⟨k,r,L,x,y,hd,mo,ti,l⟩ hG=>TF.intro (V:=(VV [(42,conA [.agg [.any,.any,.sl .cell]] sp_rows),(43,conF [.sl .cell,.sl .str] sp_rlright),(44,conF [.sl (.int .u8)] sp_r7valid),(46,conF [.any] sp_r7width),(45,conF [.sl (.int .u8)] sp_r7runesT)] (.cons (jaa jkP) (Alias.soundA jvZ) (.cons (jaa jjU) (Fresh.soundF jp3) (.cons (jaa jjr) (Fresh.soundF jpG) (.cons (jaa jgP) (Fresh.soundF jkH) (.cons (jaa jjq) (Fresh.soundF jnO) GOk.nil))))) 84 0)) jjY rfl rfl (by
 dsimp only at hG ⊢
 obtain ⟨hs,ht⟩:=hG
 have hl:=hs.len
 have hl2:=hs.links
 have hw:List.take ti.size (jao ti)=jao ti:=List.take_of_length_le (by rw [jb4]; exact Nat.le_refl _)
 have hln:(jao ti).length=ti.size:=jb4 ti
 rw [jj1 hs]
 repeat' first | exact hs.cw | exact hs.lk | exact hs.slen | exact jeY ti | simp only [SB,E,seval,rdB,ne_eq,implies_true,jeX,jc3,jcW,jcs,jcH] | simp only [hw] | refine T.seq ?_ | refine T.stm ?_ | refine T.rg ?_ | refine jac ?_ | refine jad ?_ | refine jae ?_ | refine T.cond ?_ | refine T.skip ?_ | refine T.ret ?_ | refine T.exit ?_ | refine T.block ?_ | refine Cos.intro [] [] rfl ?_ | refine And.intro ?_ ?_ | (intro p0; have hyp:=p0; (try simp only [HB,ne_eq,reduceCtorEq] at hyp); (try simp only [p0]); (try clear p0); try (exfalso; omega; done)) | omega
 ·rw [hyp]
  simp only [Bool.false_and]
 ·rw [jfV,hyp,Bool.false_and,Bool.and_false]
 ·rename_i hq
  have hvb:=hyp
  obtain ⟨rs,hrs,hti,hmay⟩:=jjD ti hvb
  have hrr:Utf.rrunes (jao ti)=rs:=by rw [← Utf.runes_eq _ (jeY ti),hrs]
  have htb:jfV ti=(List.range rs.length).all (fun i=>Utf.width (rs.getD i 0) != 0):=by rw [hrs]; simp only [jfV,hvb,Bool.true_and]
  have hrb:ja0 k r L x y mo ti l=jfV ti:=by
   rw [jj1 hs,Bool.eq_iff_iff]
   simp only [HB,ne_eq,reduceCtorEq]
   obtain ⟨⟨⟨⟨⟨⟨q2,q3⟩,q4⟩,q5⟩,q6⟩,q7⟩,q8⟩:=hq
   exact ⟨fun h=>h.2,fun h=>⟨⟨⟨⟨⟨⟨⟨⟨by assumption,q2⟩,by omega⟩,by omega⟩,by omega⟩,by omega⟩,by omega⟩,by omega⟩,h⟩⟩
  rw [← jj1 hs,hrb,htb,hrr]
  have hrl:rs.length≤ti.size:=by
   have:=jiq rs
   rw [← hti,hln] at this
   exact this
  refine T.loop (fun j:Nat=>⟨[(5,.vec (.int .i32) rs),(73,.int .i64 rs.length),(74,.int .i64 j)],[]⟩) (fun j=>j≤rs.length∧∀ i,i < j→(Utf.width (rs.getD i 0) != 0)=true) (fun j=>rs.length - j) 0 ⟨by omega,fun i hi=>by omega⟩ (Cos.intro [] [] rfl (by (simp only [SB,E,seval,rdB,ne_eq,implies_true,jeX,jc3,jcW,jcs,jcH]); first | done | (repeat' apply And.intro) <;> first | rfl | omega | simp)) (fun j ⟨hj,hall⟩=>?_)
  by_cases hjl:j < rs.length
  ·have hi32:=jsn (hmay _ (List.mem_of_getElem? (jbU (d:=0) hjl)))
   repeat' first | exact hi32 | simp only [SB,E,seval,rdB,ne_eq,implies_true,jeX,jc3,jcW,jcs,jcH] | simp only [hw] | refine T.seq ?_ | refine T.stm ?_ | refine T.rg ?_ | refine jac ?_ | refine jad ?_ | refine jae ?_ | refine T.cond ?_ | refine T.skip ?_ | refine T.ret ?_ | refine T.exit ?_ | refine T.block ?_ | refine Cos.intro [] [] rfl ?_ | refine And.intro ?_ ?_ | (intro p0; have hyp:=p0; (try simp only [HB,ne_eq,reduceCtorEq] at hyp); (try simp only [p0]); (try clear p0); try (exfalso; omega; done)) | omega
   ·exact (jbQ hjl (by simpa using hyp)).symm
   ·exact ⟨j+1,⟨by omega,jeb (f:=fun i=>Utf.width (rs.getD i 0) != 0) (by simpa using hyp) hall⟩,by omega,Cos.intro [] [] rfl (by (simp only [SB,E,seval,rdB,ne_eq,implies_true,jeX,jc3,jcW,jcs,jcH]; first | done | ((repeat' apply And.intro) <;> first | rfl | omega | (simp; done) | (simp; omega))))⟩
  ·repeat' first | simp only [SB,E,seval,rdB,ne_eq,implies_true,jeX,jc3,jcW,jcs,jcH] | simp only [hw] | refine T.seq ?_ | refine T.stm ?_ | refine T.rg ?_ | refine jac ?_ | refine jad ?_ | refine jae ?_ | refine T.cond ?_ | refine T.skip ?_ | refine T.ret ?_ | refine T.exit ?_ | refine T.block ?_ | refine Cos.intro [] [] rfl ?_ | refine And.intro ?_ ?_ | (intro p0; have hyp:=p0; (try simp only [HB,ne_eq,reduceCtorEq] at hyp); (try simp only [p0]); (try clear p0); try (exfalso; omega; done)) | omega
   exact (jcX (by omega) hall).symm
 ·rw [jw4]
  exact (jk1 (by simp_all)).symm)
theorem jnQ:Fresh Tryz.prog E0 15 sp_r12right:=Alias.fresh jnP (fun x=>rfl)
noncomputable def sp_great:Spec:=spOf (α:=Int × Int × (List CD) × Int × Int × Bool × Int × ByteArray × (List ByteArray)) (fun ⟨k,r,L,x,y,hd,mo,ti,l⟩=>[.agg [.int .i64 k,.int .i64 r,.vec .cell L,.int .i64 x,.int .i64 y,.bool hd,.int .u8 mo,.str ti,.vec .str l]]) fun ⟨k,r,L,x,y,hd,mo,ti,l⟩=>(True,.ret (.bool (decide (3000 < (L.length:Int)) || decide (1000 < (ti.size:Int)) || decide (1000 < (l.length:Int)))))
theorem jfv (k:Int) (r:Int) (L:List CD) (x:Int) (y:Int) (hd:Bool) (mo:Int) (ti:ByteArray) (l:List ByteArray):sp_great [.agg [.int .i64 k,.int .i64 r,.vec .cell L,.int .i64 x,.int .i64 y,.bool hd,.int .u8 mo,.str ti,.vec .str l]]=some (True,.ret (.bool (decide (3000 < (L.length:Int)) || decide (1000 < (ti.size:Int)) || decide (1000 < (l.length:Int))))):=jar (α:=Int × Int × (List CD) × Int × Int × Bool × Int × ByteArray × (List ByteArray)) _ (fun ⟨k,r,L,x,y,hd,mo,ti,l⟩ ⟨k',r',L',x',y',hd',mo',ti',l'⟩ h=>by first | simpa [CP] using h | (simp [CP] at h ⊢; grind)) (k,r,L,x,y,hd,mo,ti,l)
theorem jt8:Alias Tryz.prog E0 7 sp_great:=Alias.of fun ⟨k,r,L,x,y,hd,mo,ti,l⟩ hG=>TF.intro (V:=(VV [] GOk.nil 19 0)) jjZ rfl rfl (by
 dsimp only at hG ⊢
 repeat' first | simp only [SB,E,seval,rdB,ne_eq,implies_true] | refine T.seq ?_ | refine T.stm ?_ | refine T.rg ?_ | refine jac ?_ | refine jad ?_ | refine jae ?_ | refine T.cond ?_ | refine T.skip ?_ | refine T.ret ?_ | refine T.exit ?_ | refine T.block ?_ | refine Cos.intro [] [] rfl ?_ | refine And.intro ?_ ?_ | (intro p0; have hyp:=p0; (try simp only [HB,ne_eq,reduceCtorEq] at hyp); (try simp only [p0]); (try clear p0); try (exfalso; omega; done)) | omega)
theorem jt9:Fresh Tryz.prog E0 7 sp_great:=Alias.fresh jt8 (fun x=>rfl)
noncomputable def sp_ssame:Spec:=spOf (α:=Int × Int × (List CD) × Int × Int × Bool × Int × ByteArray × (List ByteArray) × Int × Int × (List CD) × Int × Int × Bool × Int × ByteArray × (List ByteArray)) (fun ⟨k,r,L,x,y,hd,mo,ti,l,k',r',L',x',y',hd',mo',ti',l'⟩=>[.agg [.int .i64 k,.int .i64 r,.vec .cell L,.int .i64 x,.int .i64 y,.bool hd,.int .u8 mo,.str ti,.vec .str l],.agg [.int .i64 k',.int .i64 r',.vec .cell L',.int .i64 x',.int .i64 y',.bool hd',.int .u8 mo',.str ti',.vec .str l']]) fun ⟨k,r,L,x,y,hd,mo,ti,l,k',r',L',x',y',hd',mo',ti',l'⟩=>((L.length≤60000∧l.length≤60000)∧(L'.length≤60000∧l'.length≤60000),.ret (.bool (decide (k=k'∧r=r'∧L=L'∧x=x'∧y=y'∧hd=hd'∧mo=mo'∧ti=ti'∧l=l'))))
theorem jfw (k:Int) (r:Int) (L:List CD) (x:Int) (y:Int) (hd:Bool) (mo:Int) (ti:ByteArray) (l:List ByteArray) (k':Int) (r':Int) (L':List CD) (x':Int) (y':Int) (hd':Bool) (mo':Int) (ti':ByteArray) (l':List ByteArray):sp_ssame [.agg [.int .i64 k,.int .i64 r,.vec .cell L,.int .i64 x,.int .i64 y,.bool hd,.int .u8 mo,.str ti,.vec .str l],.agg [.int .i64 k',.int .i64 r',.vec .cell L',.int .i64 x',.int .i64 y',.bool hd',.int .u8 mo',.str ti',.vec .str l']]=some ((L.length≤60000∧l.length≤60000)∧(L'.length≤60000∧l'.length≤60000),.ret (.bool (decide (k=k'∧r=r'∧L=L'∧x=x'∧y=y'∧hd=hd'∧mo=mo'∧ti=ti'∧l=l')))):=jar (α:=Int × Int × (List CD) × Int × Int × Bool × Int × ByteArray × (List ByteArray) × Int × Int × (List CD) × Int × Int × Bool × Int × ByteArray × (List ByteArray)) _ (fun ⟨k,r,L,x,y,hd,mo,ti,l,k',r',L',x',y',hd',mo',ti',l'⟩ ⟨k',r',L',x',y',hd',mo',ti',l',k'',r'',L'',x'',y'',hd'',mo'',ti'',l''⟩ h=>by first | simpa [CP] using h | (simp [CP] at h ⊢; grind)) (k,r,L,x,y,hd,mo,ti,l,k',r',L',x',y',hd',mo',ti',l')
theorem jua:Alias Tryz.prog E0 13 sp_ssame:=Alias.of fun ⟨k,r,L,x,y,hd,mo,ti,l,k',r',L',x',y',hd',mo',ti',l'⟩ hG=>TF.intro (V:=(VV [(40,conF [.sl .str,.sl .str] sp_rssame),(41,conF [.agg [.any,.any,.sl .cell],.agg [.any,.any,.sl .cell]] sp_rsameg)] (.cons (jaa jh4) (Fresh.soundF jmQ) (.cons (jaa jkQ) (Fresh.soundF jrN) GOk.nil)) 68 0)) jk0 rfl rfl (by
 dsimp only at hG ⊢
 repeat' first | simp only [SB,E,seval,rdB,ne_eq,implies_true,jcO,jmD] | refine T.seq ?_ | refine T.stm ?_ | refine T.rg ?_ | refine jac ?_ | refine jad ?_ | refine jae ?_ | refine T.cond ?_ | refine T.skip ?_ | refine T.ret ?_ | refine T.exit ?_ | refine T.block ?_ | refine Cos.intro [] [] rfl ?_ | refine And.intro ?_ ?_ | (intro p0; have hyp:=p0; (try simp only [HB,ne_eq,reduceCtorEq] at hyp); (try simp only [p0]); (try clear p0); try (exfalso; omega; done)) | omega
 rw [Bool.eq_iff_iff]
 simp only [HB,ne_eq,reduceCtorEq]
 grind)
theorem jub:Fresh Tryz.prog E0 13 sp_ssame:=Alias.fresh jua (fun x=>rfl)
end
end Go.Proofs.YtcfkfgkndncanaaGreatDoor
