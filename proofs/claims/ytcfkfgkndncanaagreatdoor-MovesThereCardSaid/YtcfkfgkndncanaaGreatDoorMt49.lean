/- Texts of this claim, merged by a program of this claim: FLawT. -/
import Derived.Test.YtcfkfgkndncanaaGreatDoorMt42
import Derived.Test.YtcfkfgkndncanaaGreatDoorMt45
import Derived.Test.YtcfkfgkndncanaaGreatDoorMt48
namespace Go.Proofs.YtcfkfgkndncanaaGreatDoor
set_option linter.unusedVariables false
set_option linter.unusedSimpArgs false
section
open Go.RowKit
set_option maxRecDepth 100000
set_option maxHeartbeats 8000000
noncomputable def sp_lawT:Spec:=spOf (α:=Int × Int × (List CD) × Int × Int × Bool × Int × ByteArray × (List ByteArray) × Int × Int × (List CD) × Int × Int × Bool × Int × ByteArray × (List ByteArray)) (fun ⟨k,r,L,x,y,hd,mo,ti,l,k',r',L',x',y',hd',mo',ti',l'⟩=>[.agg [.int .i64 k,.int .i64 r,.vec .cell L,.int .i64 x,.int .i64 y,.bool hd,.int .u8 mo,.str ti,.vec .str l],.agg [.int .i64 k',.int .i64 r',.vec .cell L',.int .i64 x',.int .i64 y',.bool hd',.int .u8 mo',.str ti',.vec .str l']]) fun ⟨k,r,L,x,y,hd,mo,ti,l,k',r',L',x',y',hd',mo',ti',l'⟩=>(((∀ c∈L,CWf c)∧SLen ti∧(∀ s∈l,SLen s)∧0≤mo)∧((∀ c∈L',CWf c)∧SLen ti'∧(∀ s∈l',SLen s)∧0≤mo'),.ret (.bool true))
theorem jqh (k:Int) (r:Int) (L:List CD) (x:Int) (y:Int) (hd:Bool) (mo:Int) (ti:ByteArray) (l:List ByteArray) (k':Int) (r':Int) (L':List CD) (x':Int) (y':Int) (hd':Bool) (mo':Int) (ti':ByteArray) (l':List ByteArray):sp_lawT [.agg [.int .i64 k,.int .i64 r,.vec .cell L,.int .i64 x,.int .i64 y,.bool hd,.int .u8 mo,.str ti,.vec .str l],.agg [.int .i64 k',.int .i64 r',.vec .cell L',.int .i64 x',.int .i64 y',.bool hd',.int .u8 mo',.str ti',.vec .str l']]=some (((∀ c∈L,CWf c)∧SLen ti∧(∀ s∈l,SLen s)∧0≤mo)∧((∀ c∈L',CWf c)∧SLen ti'∧(∀ s∈l',SLen s)∧0≤mo'),.ret (.bool true)):=jar (α:=Int × Int × (List CD) × Int × Int × Bool × Int × ByteArray × (List ByteArray) × Int × Int × (List CD) × Int × Int × Bool × Int × ByteArray × (List ByteArray)) _ (fun ⟨k,r,L,x,y,hd,mo,ti,l,k',r',L',x',y',hd',mo',ti',l'⟩ ⟨k',r',L',x',y',hd',mo',ti',l',k'',r'',L'',x'',y'',hd'',mo'',ti'',l''⟩ h=>by first | simpa [CP] using h | (simp [CP] at h ⊢; grind)) (k,r,L,x,y,hd,mo,ti,l,k',r',L',x',y',hd',mo',ti',l')
theorem jwm:Alias Tryz.prog E0 4 sp_lawT:=Alias.of fun ⟨k,r,L,x,y,hd,mo,ti,l,k',r',L',x',y',hd',mo',ti',l'⟩ hG=>TF.intro (V:=(VV [(7,conF [.agg [.any,.any,.sl .cell,.any,.any,.any,.any,.any,.sl .str]] sp_great),(8,conF [] sp_fixedE),(15,conF [.agg [.any,.any,.sl .cell,.any,.any,.any,.any,.any,.sl .str]] sp_r12right),(16,conF [.agg [.any,.any,.sl .cell,.any,.any,.any,.any,.any,.sl .str],.agg [.any,.any,.sl .cell,.any,.any,.any,.any,.any,.sl .str]] sp_menc),(17,conF [.agg [.any,.any,.sl .cell,.any,.any,.any,.any,.any,.sl .str]] sp_mfull),(11,conA [.agg [.any,.any,.sl .cell,.any,.any,.any,.any,.any,.sl .str],.sl (.int .u8)] sp_apply),(13,conF [.agg [.any,.any,.sl .cell,.any,.any,.any,.any,.any,.sl .str],.agg [.any,.any,.sl .cell,.any,.any,.any,.any,.any,.sl .str]] sp_ssame)] (.cons (jaa jjZ) (Fresh.soundF jt9) (.cons (jaa jkh) (Fresh.soundF jsH) (.cons (jaa jjY) (Fresh.soundF jnQ) (.cons (jaa jeG) (Fresh.soundF jwj) (.cons (jaa jez) (Fresh.soundF jo5) (.cons (jji jhx) (Alias.soundA jum) (.cons (jaa jk0) (Fresh.soundF jub) GOk.nil))))))) 80 0)) jiy rfl rfl (by
 dsimp only at hG ⊢
 obtain ⟨⟨hwf,ht,hsl,hmo⟩,hwf',ht',hsl',hmo'⟩:=hG
 by_cases hgt:((3000 < (L.length:Int)∨1000 < (ti.size:Int))∨1000 < (l.length:Int))∨((3000 < (L'.length:Int)∨1000 < (ti'.size:Int))∨1000 < (l'.length:Int))
 ·repeat' first | exact ⟨hwf,by omega,by omega,hsl⟩ | exact ⟨hwf',by omega,by omega,hsl'⟩ | simp only [SB,E,seval,rdB,ne_eq,implies_true,jfv,jeA,jdk,jgm,jbA,jfz,jfw] | simp only [hw] | simp only [hw2] | simp only [hw3] | simp only [hw4] | simp only [hw5] | refine T.seq ?_ | refine T.stm ?_ | refine T.rg ?_ | refine jac ?_ | refine jad ?_ | refine jae ?_ | refine T.cond ?_ | refine T.skip ?_ | refine T.ret ?_ | refine T.exit ?_ | refine T.block ?_ | refine Cos.intro [] [] rfl ?_ | refine And.intro ?_ ?_ | (intro p0; have hyp:=p0; (try simp only [HB,ne_eq,reduceCtorEq] at hyp); (try simp only [p0]); (try clear p0); try (exfalso; omega; done)) | omega
  all_goals (exfalso; omega)
 have hsc:ScrOk L l:=⟨hwf,by omega,by omega,hsl⟩
 have hsc':ScrOk L' l':=⟨hwf',by omega,by omega,hsl'⟩
 have g1:¬3000 < (L.length:Int):=by omega
 have g2:¬1000 < (ti.size:Int):=by omega
 have g3:¬1000 < (l.length:Int):=by omega
 have g1':¬3000 < (L'.length:Int):=by omega
 have g2':¬1000 < (ti'.size:Int):=by omega
 have g3':¬1000 < (l'.length:Int):=by omega
 cases hA:ja0 k r L x y mo ti l
 ·have hw:=hA
  repeat' first | exact hsc | exact hsc' | simp only [SB,E,seval,rdB,ne_eq,implies_true,jfv,jeA,jdk,jgm,jbA,jfz,jfw] | simp only [hw] | simp only [hw2] | simp only [hw3] | simp only [hw4] | simp only [hw5] | refine T.seq ?_ | refine T.stm ?_ | refine T.rg ?_ | refine jac ?_ | refine jad ?_ | refine jae ?_ | refine T.cond ?_ | refine T.skip ?_ | refine T.ret ?_ | refine T.exit ?_ | refine T.block ?_ | refine Cos.intro [] [] rfl ?_ | refine And.intro ?_ ?_ | (intro p0; have hyp:=p0; (try simp only [HB,ne_eq,reduceCtorEq] at hyp); (try simp only [p0]); (try clear p0); try (exfalso; omega; done)) | omega
 cases hB:ja0 k' r' L' x' y' mo' ti' l'
 ·have hw:=And.intro hA hB
  repeat' first | exact hsc | exact hsc' | simp only [SB,E,seval,rdB,ne_eq,implies_true,jfv,jeA,jdk,jgm,jbA,jfz,jfw] | simp only [hw] | simp only [hw2] | simp only [hw3] | simp only [hw4] | simp only [hw5] | refine T.seq ?_ | refine T.stm ?_ | refine T.rg ?_ | refine jac ?_ | refine jad ?_ | refine jae ?_ | refine T.cond ?_ | refine T.skip ?_ | refine T.ret ?_ | refine T.exit ?_ | refine T.block ?_ | refine Cos.intro [] [] rfl ?_ | refine And.intro ?_ ?_ | (intro p0; have hyp:=p0; (try simp only [HB,ne_eq,reduceCtorEq] at hyp); (try simp only [p0]); (try clear p0); try (exfalso; omega; done)) | omega
 obtain ⟨d,hdd⟩:∃ d,encI k r L x y hd mo ti l k' r' L' x' y' hd' mo' ti' l'=d:=⟨_,rfl⟩
 obtain ⟨g,hg⟩:∃ d,jfZ k' r' L' x' y' hd' mo' ti' l'=d:=⟨_,rfl⟩
 obtain ⟨l0,a0,h1⟩:=jxa (hd:=hd) (hd':=hd') hA hmo hB hmo' hwf'
 obtain ⟨l1,a1,h2⟩:=jsQ (hd:=hd) (hd':=hd') hA hB hmo' hwf'
 have hl1:=enc_len (k:=k) (r:=r) (x:=x) (y:=y) (hd:=hd) (ti:=ti) (k':=k') (r':=r') (x':=x') (y':=y') (hd':=hd') (ti':=ti') hsc hmo hsc' hmo'
 have hl2:=jpa (k:=k') (r:=r') (x:=x') (y:=y') (hd:=hd') (ti:=ti') hsc' hmo'
 have hb1:=jwl k r L x y hd mo ti l k' r' L' x' y' hd' mo' ti' l'
 have hb2:=jpe k' r' L' x' y' hd' mo' ti' l'
 rw [hdd] at h1 hl1 hb1
 rw [hg] at h2 hl2 hb2
 have hl3:d.length≤1000000:=by omega
 have hl4:g.length≤1000000:=by omega
 have hw:=And.intro (And.intro hA hB) (show errN true=0 from rfl)
 have hw2:=hdd
 have hw3:=hg
 have hw4:=h1
 have hw5:=h2
 repeat' first | exact hsc | exact hsc' | exact hl3 | exact hl4 | exact hb1 | exact hb2 | exact ht | exact hwf _ ‹_› | simp only [SB,E,seval,rdB,ne_eq,implies_true,jfv,jeA,jdk,jgm,jbA,jfz,jfw] | simp only [hw] | simp only [hw2] | simp only [hw3] | simp only [hw4] | simp only [hw5] | refine T.seq ?_ | refine T.stm ?_ | refine T.rg ?_ | refine jac ?_ | refine jad ?_ | refine jae ?_ | refine T.cond ?_ | refine T.skip ?_ | refine T.ret ?_ | refine T.exit ?_ | refine T.block ?_ | refine Cos.intro [] [] rfl ?_ | refine And.intro ?_ ?_ | (intro p0; have hyp:=p0; (try simp only [HB,ne_eq,reduceCtorEq] at hyp); (try simp only [p0]); (try clear p0); try (exfalso; omega; done)) | omega)
end
end Go.Proofs.YtcfkfgkndncanaaGreatDoor
