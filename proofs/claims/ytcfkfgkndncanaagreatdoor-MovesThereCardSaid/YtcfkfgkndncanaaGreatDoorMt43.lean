/- Texts of this claim, merged by a program of this claim: FRun. -/
import Derived.Test.YtcfkfgkndncanaaGreatDoorMt24
import Derived.Test.YtcfkfgkndncanaaGreatDoorMt31
namespace Go.Proofs.YtcfkfgkndncanaaGreatDoor
set_option linter.unusedVariables false
set_option linter.unusedSimpArgs false
section
open Go.RowKit
set_option maxRecDepth 100000
set_option maxHeartbeats 4000000
noncomputable def msp_wideF:MSpec:=jcD (α:=Nat × Int × Int × (List CD) × Int × Int × Bool × Int × ByteArray × (List ByteArray)) (fun ⟨i,k,r,L,x,y,hd,mo,ti,l⟩=>([.int .i64 i,.ptr 0 0 0],[.box [.int .i64 k,.int .i64 r,.vec .cell L,.int .i64 x,.int .i64 y,.bool hd,.int .u8 mo,.str ti,.vec .str l]])) fun ⟨i,k,r,L,x,y,hd,mo,ti,l⟩=>(i < L.length∧L.length≤60000,.ret (.int .i64 (jam L i)),[.box [.int .i64 k,.int .i64 r,.vec .cell L,.int .i64 x,.int .i64 y,.bool hd,.int .u8 mo,.str ti,.vec .str l]])
theorem jaX (i:Nat) (k:Int) (r:Int) (L:List CD) (x:Int) (y:Int) (hd:Bool) (mo:Int) (ti:ByteArray) (l:List ByteArray):msp_wideF [.int .i64 i,.ptr 0 0 0] [.box [.int .i64 k,.int .i64 r,.vec .cell L,.int .i64 x,.int .i64 y,.bool hd,.int .u8 mo,.str ti,.vec .str l]]=some (i < L.length∧L.length≤60000,.ret (.int .i64 (jam L i)),[.box [.int .i64 k,.int .i64 r,.vec .cell L,.int .i64 x,.int .i64 y,.bool hd,.int .u8 mo,.str ti,.vec .str l]]):=jbd (α:=Nat × Int × Int × (List CD) × Int × Int × Bool × Int × ByteArray × (List ByteArray)) _ (fun ⟨i,k,r,L,x,y,hd,mo,ti,l⟩ ⟨i',k',r',L',x',y',hd',mo',ti',l'⟩ h=>by first | rfl | simpa [CP,jaP] using h | (simp [CP,jaP] at h ⊢; grind)) (i,k,r,L,x,y,hd,mo,ti,l)
theorem jo4:MutF Tryz.prog E0 117 msp_wideF:=MutF.of fun ⟨i,k,r,L,x,y,hd,mo,ti,l⟩ hG=>TF.intro (V:=(VV [] GOk.nil 11 1)) jcu rfl rfl (by
 dsimp only at hG ⊢
 obtain ⟨hi,hl⟩:=hG
 have hwd:jam L i=if (L.getD i default).wide=1 then 2 else 1:=by
  unfold jam
  rw [jgl hi]
 repeat' first | simp only [SB,E,MB,seval,rdB,ne_eq,implies_true] | apply tA | apply tB | apply tC | apply tD | apply tE | apply tF | apply tG | apply tH | apply tI | apply tJ | apply tK | apply And.intro | (intro p0; have hyp:=p0; (try simp only [HB,ne_eq,reduceCtorEq] at hyp); (try simp only [p0]); (try clear p0); try (exfalso; omega; done)) | omega
 ·exact Cos.intro [0] [] rfl (by rw [hwd,if_pos hyp]; (simp only [SB,E,MB,seval,rdB,ne_eq,implies_true]; first | done | ((repeat' apply And.intro) <;> first | rfl | omega | (simp; done) | (simp; omega))))
 ·exact Cos.intro [0] [] rfl (by rw [hwd,if_neg hyp]; (simp only [SB,E,MB,seval,rdB,ne_eq,implies_true]; first | done | ((repeat' apply And.intro) <;> first | rfl | omega | (simp; done) | (simp; omega)))))
noncomputable def msp_otherF:MSpec:=jcD (α:=Nat × (List CD) × Int × Int × (List CD) × Int × Int × Bool × Int × ByteArray × (List ByteArray)) (fun ⟨i,C,k,r,L,x,y,hd,mo,ti,l⟩=>([.int .i64 i,.ptr 0 0 0,.ptr 1 0 0,.ptr 2 0 0],[.box [.vec .cell C],.box [.fn 117 [.ptr 2 0 0]],.box [.int .i64 k,.int .i64 r,.vec .cell L,.int .i64 x,.int .i64 y,.bool hd,.int .u8 mo,.str ti,.vec .str l]])) fun ⟨i,C,k,r,L,x,y,hd,mo,ti,l⟩=>(i+jam L i≤L.length∧C.length=L.length∧L.length≤60000,.ret (.bool (jbz C L i)),[.box [.vec .cell C],.box [.fn 117 [.ptr 2 0 0]],.box [.int .i64 k,.int .i64 r,.vec .cell L,.int .i64 x,.int .i64 y,.bool hd,.int .u8 mo,.str ti,.vec .str l]])
theorem jaY (i:Nat) (C:List CD) (k:Int) (r:Int) (L:List CD) (x:Int) (y:Int) (hd:Bool) (mo:Int) (ti:ByteArray) (l:List ByteArray):msp_otherF [.int .i64 i,.ptr 0 0 0,.ptr 1 0 0,.ptr 2 0 0] [.box [.vec .cell C],.box [.fn 117 [.ptr 2 0 0]],.box [.int .i64 k,.int .i64 r,.vec .cell L,.int .i64 x,.int .i64 y,.bool hd,.int .u8 mo,.str ti,.vec .str l]]=some (i+jam L i≤L.length∧C.length=L.length∧L.length≤60000,.ret (.bool (jbz C L i)),[.box [.vec .cell C],.box [.fn 117 [.ptr 2 0 0]],.box [.int .i64 k,.int .i64 r,.vec .cell L,.int .i64 x,.int .i64 y,.bool hd,.int .u8 mo,.str ti,.vec .str l]]):=jbd (α:=Nat × (List CD) × Int × Int × (List CD) × Int × Int × Bool × Int × ByteArray × (List ByteArray)) _ (fun ⟨i,C,k,r,L,x,y,hd,mo,ti,l⟩ ⟨i',C',k',r',L',x',y',hd',mo',ti',l'⟩ h=>by first | rfl | simpa [CP,jaP] using h | (simp [CP,jaP] at h ⊢; grind)) (i,C,k,r,L,x,y,hd,mo,ti,l)
theorem jsI:MutF Tryz.prog E0 118 msp_otherF:=MutF.of fun ⟨i,C,k,r,L,x,y,hd,mo,ti,l⟩ hG=>TF.intro (V:=(VV [(117,conM msp_wideF),(116,conF [.sl .cell,.sl .cell] sp_equal)] (.cons (jaa jcu) (MutF.soundM jo4) (.cons (jaa jb5) (Fresh.soundF joE) GOk.nil)) 25 3)) jdf rfl rfl (by
 dsimp only at hG ⊢
 obtain ⟨hi,hC,hl⟩:=hG
 have hwp:=jbi L i
 have hlen:∀ X:List CD,(List.take (jam L i) (List.drop i X)).length≤4611686018427387904:=fun X=>by
  rw [List.length_take]
  omega
 repeat' first | exact hlen _ | simp only [SB,E,MB,seval,rdB,ne_eq,implies_true,jaX,ja9] | apply tA | apply tB | apply tC | apply tD | apply tE | apply tF | apply tG | apply tH | apply tI | apply tJ | apply tK | apply And.intro | (intro p0; have hyp:=p0; (try simp only [HB,ne_eq,reduceCtorEq] at hyp); (try simp only [p0]); (try clear p0); try (exfalso; omega; done)) | omega
 exact Cos.intro [0,1,2] [] rfl (by simp only [jbz]; (simp only [SB,E,MB,seval,rdB,ne_eq,implies_true,jaX,ja9]; first | done | ((repeat' apply And.intro) <;> first | rfl | omega | (simp; done) | (simp; omega)))))
theorem jxy {i bh kk:Nat} {q:CD} (hb:bh≤i) (hq:CWf q):jcF [(i:Int) - bh,(kk:Int),q.fg,q.bg,q.attrs,q.link]=jbu ([i - bh,kk]++penN q.pen):=by
 rw [← jhw]
 have h1:=hq.fg
 have h2:=hq.bg
 have h3:=hq.attrs
 have h4:=hq.link
 congr 1
 simp only [penN,CD.pen,List.cons_append,List.nil_append,List.map_cons,List.map_nil,Int.ofNat_eq_natCast,List.cons.injEq,and_true]
 (repeat' apply And.intro) <;> first | rfl | omega | trivial
noncomputable def sp_mruns:Spec:=spOf (α:=(List CD) × Int × Int × (List CD) × Int × Int × Bool × Int × ByteArray × (List ByteArray)) (fun ⟨C,k,r,L,x,y,hd,mo,ti,l⟩=>[.vec .cell C,.agg [.int .i64 k,.int .i64 r,.vec .cell L,.int .i64 x,.int .i64 y,.bool hd,.int .u8 mo,.str ti,.vec .str l]]) fun ⟨C,k,r,L,x,y,hd,mo,ti,l⟩=>(C.length=L.length∧L.length≤1920∧(∀ q∈L,CWf q)∧(∀ q∈L,0≤q.rune)∧(∀ i,i < L.length→i+jam L i≤L.length),.ret (.vec (.int .u8) (jc1 C L)))
theorem jat (C:List CD) (k:Int) (r:Int) (L:List CD) (x:Int) (y:Int) (hd:Bool) (mo:Int) (ti:ByteArray) (l:List ByteArray):sp_mruns [.vec .cell C,.agg [.int .i64 k,.int .i64 r,.vec .cell L,.int .i64 x,.int .i64 y,.bool hd,.int .u8 mo,.str ti,.vec .str l]]=some (C.length=L.length∧L.length≤1920∧(∀ q∈L,CWf q)∧(∀ q∈L,0≤q.rune)∧(∀ i,i < L.length→i+jam L i≤L.length),.ret (.vec (.int .u8) (jc1 C L))):=jar (α:=(List CD) × Int × Int × (List CD) × Int × Int × Bool × Int × ByteArray × (List ByteArray)) _ (fun ⟨C,k,r,L,x,y,hd,mo,ti,l⟩ ⟨C',k',r',L',x',y',hd',mo',ti',l'⟩ h=>by first | simpa [CP] using h | (simp [CP] at h ⊢; grind)) (C,k,r,L,x,y,hd,mo,ti,l)
theorem jup:Fresh Tryz.prog E0 88 sp_mruns:=Fresh.of fun ⟨C,k,r,L,x,y,hd,mo,ti,l⟩ hG=>TF.intro (V:=(VV [(117,conM msp_wideF),(118,conM msp_otherF),(91,conT [.sl (.int .i64)] sp_vars),(49,conT [.any,.sl (.int .i64)] sp_put),(113,conT [.any] sp_var)] (.cons (jaa jcu) (MutF.soundM jo4) (.cons (jaa jdf) (MutF.soundM jsI) (.cons (jaa jdx) (Fresh.soundT jnM) (.cons (jaa jdd) (Fresh.soundT joX) (.cons (jaa je1) (Fresh.soundT jr9) GOk.nil))))) 105 0)) jeh rfl rfl (by
 dsimp only at hG ⊢
 obtain ⟨hC,hl,hwf,hru,hwd⟩:=hG
 obtain ⟨oth,hoth⟩:∃ o,o=jbz C L:=⟨_,rfl⟩
 have heq:=jnJ C L
 rw [← hoth] at heq
 rw [heq]
 have hw5:∀ i,jbz C L i=oth i:=fun i=>by rw [hoth]
 repeat' first | simp only [SB,E,MB,seval,rdB,ne_eq,implies_true,jaX,jaY,jaG,jah,jba] | simp only [hw] | simp only [hw2] | simp only [hw5] | apply tA | apply tB | apply tC | apply tD | apply tE | apply tF | apply tG | apply tH | apply tI | apply tJ | apply tK | apply And.intro | (intro p0; have hyp:=p0; (try simp only [HB,ne_eq,reduceCtorEq] at hyp); (try simp only [p0]); (try clear p0); try (exfalso; omega; done)) | omega
 refine T.loop (fun q:Nat × Nat × Nat × List Int=>⟨[(2,.ptr 0 0 0),(3,.ptr 1 0 0),(5,.slice 3 0 1 q.2.2.2.length q.2.2.2.length),(6,.int .i64 q.2.2.1),(7,.int .i64 q.2.1),(8,.ptr 2 0 0),(9,.fn 118 [.ptr 0 0 0,.ptr 2 0 0,.ptr 1 0 0]),(10,.int .i64 q.1)],[.box [.vec .cell C],.box [.int .i64 k,.int .i64 r,.vec .cell L,.int .i64 x,.int .i64 y,.bool hd,.int .u8 mo,.str ti,.vec .str l],.box [.fn 117 [.ptr 1 0 0]],.seq (.int .u8) q.2.2.2]⟩) (fun q=>Outn L oth q.1 q.2.1 q.2.2.1 q.2.2.2) (fun q=>L.length - q.1) (0,0,0,[]) ⟨⟨Nat.le_refl _,Nat.zero_le _⟩,rfl,by simp⟩ (Cos.intro [0,1,2,99] [] rfl (by simp only [SB,E,MB,seval,rdB,ne_eq,implies_true,jaX,jaY,jaG,jah,jba]; first | done | simp [crs,crsL,jcw])) (fun ⟨i,bh,nn,bs⟩ hout=>?_)
 dsimp only at hout ⊢
 have hle:=hout.le
 have hsm:=hout.small hwf (by omega)
 by_cases hil:i < L.length
 ·have hwi:=hwd i hil
  have hwp:=jbi L i
  cases ho:oth i
  ·have hsk:=hout.skip hil ho hwi
   have hw:=ho
   repeat' first | simp only [SB,E,MB,seval,rdB,ne_eq,implies_true,jaX,jaY,jaG,jah,jba] | simp only [hw] | simp only [hw2] | simp only [hw5] | apply tA | apply tB | apply tC | apply tD | apply tE | apply tF | apply tG | apply tH | apply tI | apply tJ | apply tK | apply And.intro | (intro p0; have hyp:=p0; (try simp only [HB,ne_eq,reduceCtorEq] at hyp); (try simp only [p0]); (try clear p0); try (exfalso; omega; done)) | omega
   exact ⟨(i+jam L i,bh,nn,bs),hsk,by simp only; omega,Cos.intro [0,1,2,3] [] rfl (by (simp only [SB,E,MB,seval,rdB,ne_eq,implies_true,jaX,jaY,jaG,jah,jba]; first | done | ((repeat' apply And.intro) <;> first | rfl | omega | (simp; done) | (simp; omega))))⟩
  ·have hw:=ho
   have hcw:=hwf _ (jcG hil)
   have hcg:=jgl hil
   repeat' first | simp only [SB,E,MB,seval,rdB,ne_eq,implies_true,jaX,jaY,jaG,jah,jba] | simp only [hw] | simp only [hw2] | simp only [hw5] | apply tA | apply tB | apply tC | apply tD | apply tE | apply tF | apply tG | apply tH | apply tI | apply tJ | apply tK | apply And.intro | (intro p0; have hyp:=p0; (try simp only [HB,ne_eq,reduceCtorEq] at hyp); (try simp only [p0]); (try clear p0); try (exfalso; omega; done)) | omega
   refine T.loop (fun q:Nat × Nat × List Int=>⟨[(2,.ptr 0 0 0),(3,.ptr 1 0 0),(5,.slice 3 0 1 bs.length bs.length),(6,.int .i64 nn),(7,.int .i64 bh),(8,.ptr 2 0 0),(9,.fn 118 [.ptr 0 0 0,.ptr 2 0 0,.ptr 1 0 0]),(10,.int .i64 q.1),(11,.ptr 4 0 0),(12,.int .i64 i),(13,.int .i64 q.2.1),(14,.slice 5 0 1 q.2.2.length q.2.2.length)],[.box [.vec .cell C],.box [.int .i64 k,.int .i64 r,.vec .cell L,.int .i64 x,.int .i64 y,.bool hd,.int .u8 mo,.str ti,.vec .str l],.box [.fn 117 [.ptr 1 0 0]],.seq (.int .u8) bs,.box [.int .u32 (L.getD i default).fg,.int .u32 (L.getD i default).bg,.int .u8 (L.getD i default).attrs,.int .u16 (L.getD i default).link],.seq (.int .u8) q.2.2]⟩) (fun q=>Inn L (cAt L i).pen oth i q.1 q.2.1 q.2.2) (fun q=>L.length - q.1) (i,0,[]) (Inn.start (by omega)) (Cos.intro [0,1,2,3,4,99] [] rfl (by simp only [SB,E,MB,seval,rdB,ne_eq,implies_true,jaX,jaY,jaG,jah,jba]; simp [crs,crsL,jcw,CD.pen])) (fun ⟨j,kk,rb⟩ hin=>?_)
   dsimp only at hin ⊢
   have hle2:=hin.le
   have hsm2:=hin.small hwf (by omega)
   have hend:¬ (j < L.length∧oth j=true∧(cAt L j).pen=(cAt L i).pen)→i < j∧Outn L oth j j (nn+1) (bs++jbu ([i - bh,kk]++penN (cAt L i).pen)++rb):=fun h=>⟨hin.far hil ho h,hout.go hil ho hin h⟩
   have hv6:=jxy (kk:=kk) hle.1 hcw
   have hvl6:=jjQ [(i:Int) - bh,(kk:Int),(L.getD i default).fg,(L.getD i default).bg,(L.getD i default).attrs,(L.getD i default).link] (fun u hu=>by
    have h1:=hcw.fg
    have h2:=hcw.bg
    have h3:=hcw.attrs
    have h4:=hcw.link
    simp only [HB,ne_eq,reduceCtorEq] at hu
    omega)
   simp only [List.length_cons,List.length_nil] at hvl6
   have hcf:=hcw.fg
   have hcb:=hcw.bg
   have hca:=hcw.attrs
   have hclk:=hcw.link
   by_cases hjl:j < L.length
   ·have hwj:=hwd j hjl
    have hwpj:=jbi L j
    have hrj:=hru _ (jcG hjl)
    have hrw:=(hwf _ (jcG hjl)).rune
    have hcj:=jgl hjl
    have hw2:IntKind.u64.wrap (L.getD j default).rune=(L.getD j default).rune:=jnf (by omega)
    have h10:=jbW (L.getD j default).rune.toNat (by omega)
    cases ho2:oth j
    ·have hw:=ho2
     have hE:=hend (by rw [ho2]; simp)
     rw [hcg] at hE
     repeat' first | simp only [SB,E,MB,seval,rdB,ne_eq,implies_true,jaX,jaY,jaG,jah,jba] | simp only [hw] | simp only [hw2] | simp only [hw5] | apply tA | apply tB | apply tC | apply tD | apply tE | apply tF | apply tG | apply tH | apply tI | apply tJ | apply tK | apply And.intro | (intro p0; have hyp:=p0; (try simp only [HB,ne_eq,reduceCtorEq] at hyp); (try simp only [p0]); (try clear p0); try (exfalso; omega; done)) | omega
     exact ⟨(j,j,nn+1,_),hE.2,by simp only; have:=hE.1; omega,Cos.intro [0,1,2,9] [] rfl (by rw [hv6]; (simp only [SB,E,MB,seval,rdB,ne_eq,implies_true,jaX,jaY,jaG,jah,jba]; first | done | ((repeat' apply And.intro) <;> first | rfl | omega | (simp; done) | (simp; omega))))⟩
    ·have hw:=ho2
     repeat' first | simp only [SB,E,MB,seval,rdB,ne_eq,implies_true,jaX,jaY,jaG,jah,jba] | simp only [hw] | simp only [hw2] | simp only [hw5] | apply tA | apply tB | apply tC | apply tD | apply tE | apply tF | apply tG | apply tH | apply tI | apply tJ | apply tK | apply And.intro | (intro p0; have hyp:=p0; (try simp only [HB,ne_eq,reduceCtorEq] at hyp); (try simp only [p0]); (try clear p0); try (exfalso; omega; done)) | omega
     ·have hgo:=hin.go hjl ho2 (by rw [hcj,hcg]; exact hyp) hwj
      rw [hcj] at hgo
      exact ⟨(j+jam L j,kk+1,_),hgo,by simp only; omega,Cos.intro [0,1,2,3,4,7] [] rfl (by (simp only [SB,E,MB,seval,rdB,ne_eq,implies_true,jaX,jaY,jaG,jah,jba]; first | done | ((repeat' apply And.intro) <;> first | rfl | omega | (simp; done) | (simp; omega))))⟩
     ·have hE:=hend (fun h=>hyp (by rw [← hcj,← hcg]; exact h.2.2))
      rw [hcg] at hE
      exact ⟨(j,j,nn+1,_),hE.2,by simp only; have:=hE.1; omega,Cos.intro [0,1,2,9] [] rfl (by rw [hv6]; (simp only [SB,E,MB,seval,rdB,ne_eq,implies_true,jaX,jaY,jaG,jah,jba]; first | done | ((repeat' apply And.intro) <;> first | rfl | omega | (simp; done) | (simp; omega))))⟩
   ·have hE:=hend (fun h=>hjl h.1)
    rw [hcg] at hE
    repeat' first | simp only [SB,E,MB,seval,rdB,ne_eq,implies_true,jaX,jaY,jaG,jah,jba] | simp only [hw] | simp only [hw2] | simp only [hw5] | apply tA | apply tB | apply tC | apply tD | apply tE | apply tF | apply tG | apply tH | apply tI | apply tJ | apply tK | apply And.intro | (intro p0; have hyp:=p0; (try simp only [HB,ne_eq,reduceCtorEq] at hyp); (try simp only [p0]); (try clear p0); try (exfalso; omega; done)) | omega
    exact ⟨(j,j,nn+1,_),hE.2,by simp only; have:=hE.1; omega,Cos.intro [0,1,2,9] [] rfl (by rw [hv6]; (simp only [SB,E,MB,seval,rdB,ne_eq,implies_true,jaX,jaY,jaG,jah,jba]; first | done | ((repeat' apply And.intro) <;> first | rfl | omega | (simp; done) | (simp; omega))))⟩
 ·obtain ⟨e1,e2⟩:=hout.done (by omega)
  rw [← e1,← e2]
  have hw:jcF [(nn:Int)]=varN nn:=by simp only [jcF,List.flatMap_cons,List.flatMap_nil,List.append_nil,Int.toNat_natCast]
  have h10:=jbW nn (by omega)
  repeat' first | simp only [SB,E,MB,seval,rdB,ne_eq,implies_true,jaX,jaY,jaG,jah,jba] | simp only [hw] | simp only [hw2] | simp only [hw5] | apply tA | apply tB | apply tC | apply tD | apply tE | apply tF | apply tG | apply tH | apply tI | apply tJ | apply tK | apply And.intro | (intro p0; have hyp:=p0; (try simp only [HB,ne_eq,reduceCtorEq] at hyp); (try simp only [p0]); (try clear p0); try (exfalso; omega; done)) | omega
  ·rw [if_pos (show nn=0 by omega)]
   exact Cos.intro [99] [] rfl (by simp only [SB,E,MB,seval,rdB,ne_eq,implies_true,jaX,jaY,jaG,jah,jba]; first | done | simp [crs,crsL,jcw])
  ·rw [if_neg (show ¬ nn=0 by omega)]
   refine Cos.intro [6] [] rfl ?_
   (simp only [SB,E,MB,seval,rdB,ne_eq,implies_true,jaX,jaY,jaG,jah,jba]; first | done | ((repeat' apply And.intro) <;> first | rfl | omega | (simp; done) | (simp; omega))))
end
end Go.Proofs.YtcfkfgkndncanaaGreatDoor
