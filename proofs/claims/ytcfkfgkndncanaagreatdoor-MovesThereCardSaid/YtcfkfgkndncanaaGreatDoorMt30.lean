/- Texts of this claim, merged by a program of this claim: FDif, FDif2. -/
import Derived.Test.YtcfkfgkndncanaaGreatDoorMt24
import Derived.Test.YtcfkfgkndncanaaGreatDoorMt25
import Derived.Test.YtcfkfgkndncanaaGreatDoorMt29
namespace Go.Proofs.YtcfkfgkndncanaaGreatDoor
set_option linter.unusedVariables false
set_option linter.unusedSimpArgs false
section
open Go.RowKit
set_option maxRecDepth 100000
set_option maxHeartbeats 4000000
theorem jsp (f:CD→CD) {L:List CD} {i:Nat} (h:i < L.length):(half f L i).getD i default=L.getD i default:=by
 rw [List.getD_eq_getElem?_getD,joI f (jc2 h)]
 rfl
theorem jsq {f:CD→CD} {L:List CD} {i:Nat} (h:i < L.length) (e:f (L.getD i default)=L.getD i default):half f L (i+1)=half f L i:=by
 rw [← joJ f (jc2 h),e]
 have hl:i < (half f L i).length:=by rw [joH]; exact h
 have:=joI f (jc2 h)
 rw [List.getElem?_eq_getElem hl] at this
 rw [← Option.some.inj this,List.set_getElem_self]
noncomputable def sp_under:Spec:=spOf (α:=Int × Int × (List CD) × Int × Int × Bool × Int × ByteArray × (List ByteArray) × (List ByteArray)) (fun ⟨k,r,L,x,y,hd,mo,ti,bl,links⟩=>[.agg [.int .i64 k,.int .i64 r,.vec .cell L,.int .i64 x,.int .i64 y,.bool hd,.int .u8 mo,.str ti,.vec .str bl],.vec .str links]) fun ⟨k,r,L,x,y,hd,mo,ti,bl,links⟩=>(L.length≤60000∧bl.length≤60000∧links.length≤60000∧(∀ c∈L,CWf c)∧(∀ c∈L,c.link≤bl.length),.ret (.vec .cell (L.map (ulf bl links))))
theorem jak (k:Int) (r:Int) (L:List CD) (x:Int) (y:Int) (hd:Bool) (mo:Int) (ti:ByteArray) (bl:List ByteArray) (links:List ByteArray):sp_under [.agg [.int .i64 k,.int .i64 r,.vec .cell L,.int .i64 x,.int .i64 y,.bool hd,.int .u8 mo,.str ti,.vec .str bl],.vec .str links]=some (L.length≤60000∧bl.length≤60000∧links.length≤60000∧(∀ c∈L,CWf c)∧(∀ c∈L,c.link≤bl.length),.ret (.vec .cell (L.map (ulf bl links)))):=jar (α:=Int × Int × (List CD) × Int × Int × Bool × Int × ByteArray × (List ByteArray) × (List ByteArray)) _ (fun ⟨k,r,L,x,y,hd,mo,ti,bl,links⟩ ⟨k',r',L',x',y',hd',mo',ti',bl',links'⟩ h=>by first | simpa [CP] using h | (simp [CP] at h ⊢; grind)) (k,r,L,x,y,hd,mo,ti,bl,links)
theorem joZ:Fresh Tryz.prog E0 85 sp_under:=Fresh.of fun ⟨k,r,L,x,y,hd,mo,ti,bl,links⟩ hG=>TF.intro (V:=(VV [(24,conT [.sl .cell] sp_clone),(114,conF [.sl .str,.any] sp_sindex)] (.cons (jaa ja8) (Fresh.soundT jgc) (.cons (jaa jby) (Fresh.soundF jjX) GOk.nil)) 41 0)) jdX rfl rfl (by
 dsimp only at hG ⊢
 obtain ⟨hL,hb,hl,hc,hle⟩:=hG
 repeat' first | simp only [SB,E,seval,rdB,ne_eq,implies_true,jai,jbb] | simp only [hw] | simp only [hw2] | simp only [hw3] | refine T.seq ?_ | refine T.stm ?_ | refine T.rg ?_ | refine jac ?_ | refine jad ?_ | refine jae ?_ | refine T.cond ?_ | refine T.skip ?_ | refine T.ret ?_ | refine T.exit ?_ | refine T.block ?_ | refine Cos.intro [1] [] rfl ?_ | refine And.intro ?_ ?_ | (intro p0; have hyp:=p0; (try simp only [HB,ne_eq,reduceCtorEq] at hyp); (try simp only [p0]); (try clear p0); try (exfalso; omega; done)) | omega
 refine T.loop (fun i:Nat=>⟨[(1,.vec .str links),(2,.ptr 0 0 0),(5,.slice 1 0 6 L.length L.length),(12,.int .i64 L.length),(13,.int .i64 i)],[.box [.int .i64 k,.int .i64 r,.vec .cell L,.int .i64 x,.int .i64 y,.bool hd,.int .u8 mo,.str ti,.vec .str bl],.seq .cell (half (ulf bl links) L i)]⟩) (fun i=>i≤L.length) (fun i=>L.length - i) 0 (by omega) (Cos.intro [0,1] [] rfl (by simp only [SB,E,seval,rdB,ne_eq,implies_true,jai,jbb]; simp [half])) (fun i hi=>?_)
 have hhl:=joH (ulf bl links) L i
 by_cases hil:i < L.length
 ·have hlk:=(hc _ (jcG hil)).link
  have hlb:=hle _ (jcG hil)
  have hw:=jsp (ulf bl links) hil
  have hst:=joJ (ulf bl links) (jc2 hil)
  by_cases h0:0 < (L.getD i default).link
  ·have hpl:=jdz links (bl.getD ((L.getD i default).link - 1).toNat ETy.str.dflt)
   have hu:ulf bl links (L.getD i default)={ L.getD i default with link:=jaU links (bl.getD ((L.getD i default).link - 1).toNat ETy.str.dflt)+1 }:=if_pos h0
   rw [hu] at hst
   have hw2:IntKind.u16.wrap ((L.getD i default).link - 1)=(L.getD i default).link - 1:=jne (by omega)
   have hw3:IntKind.u16.wrap (jaU links (bl.getD ((L.getD i default).link - 1).toNat ETy.str.dflt)+1)=jaU links (bl.getD ((L.getD i default).link - 1).toNat ETy.str.dflt)+1:=jne (by omega)
   repeat' first | simp only [SB,E,seval,rdB,ne_eq,implies_true,jai,jbb] | simp only [hw] | simp only [hw2] | simp only [hw3] | apply tA | apply tB | apply tC | apply tD | apply tE | apply tF | apply tG | apply tH | apply tI | apply tJ | apply tK | apply And.intro | (intro p0; have hyp:=p0; (try simp only [HB,ne_eq,reduceCtorEq] at hyp); (try simp only [p0]); (try clear p0); try (exfalso; omega; done)) | omega
   exact ⟨i+1,by omega,by omega,Cos.intro [0,1] [] rfl (by rw [← hst]; (simp only [SB,E,seval,rdB,ne_eq,implies_true,jai,jbb]; first | done | ((repeat' apply And.intro) <;> first | rfl | omega | (simp; done) | (simp; omega))))⟩
  ·have hu:ulf bl links (L.getD i default)=L.getD i default:=if_neg h0
   have hsk:=jsq (f:=ulf bl links) hil hu
   repeat' first | simp only [SB,E,seval,rdB,ne_eq,implies_true,jai,jbb] | simp only [hw] | simp only [hw2] | simp only [hw3] | apply tA | apply tB | apply tC | apply tD | apply tE | apply tF | apply tG | apply tH | apply tI | apply tJ | apply tK | apply And.intro | (intro p0; have hyp:=p0; (try simp only [HB,ne_eq,reduceCtorEq] at hyp); (try simp only [p0]); (try clear p0); try (exfalso; omega; done)) | omega
   exact ⟨i+1,by omega,by omega,Cos.intro [0,1] [] rfl (by rw [hsk]; (simp only [SB,E,seval,rdB,ne_eq,implies_true,jai,jbb]; first | done | ((repeat' apply And.intro) <;> first | rfl | omega | (simp; done) | (simp; omega))))⟩
 ·have e:half (ulf bl links) L i=L.map (ulf bl links):=jtZ _ _ _ (by omega)
  rw [e]
  have hlm:(L.map (ulf bl links)).length=L.length:=by simp
  repeat' first | simp only [SB,E,seval,rdB,ne_eq,implies_true,jai,jbb] | simp only [hw] | simp only [hw2] | simp only [hw3] | refine T.seq ?_ | refine T.stm ?_ | refine T.rg ?_ | refine jac ?_ | refine jad ?_ | refine jae ?_ | refine T.cond ?_ | refine T.skip ?_ | refine T.ret ?_ | refine T.exit ?_ | refine T.block ?_ | refine Cos.intro [1] [] rfl ?_ | refine And.intro ?_ ?_ | (intro p0; have hyp:=p0; (try simp only [HB,ne_eq,reduceCtorEq] at hyp); (try simp only [p0]); (try clear p0); try (exfalso; omega; done)) | omega)
end
section
open Go.RowKit
set_option maxRecDepth 100000
set_option maxHeartbeats 4000000
noncomputable def sp_differs:Spec:=spOf (α:=Int × Int × (List CD) × Int × Int × Bool × Int × ByteArray × (List ByteArray) × Int × Int × (List CD) × Int × Int × Bool × Int × ByteArray × (List ByteArray) × Int) (fun ⟨k,r,L,x,y,hd,mo,ti,l,k',r',L',x',y',hd',mo',ti',l',m⟩=>[.agg [.int .i64 k,.int .i64 r,.vec .cell L,.int .i64 x,.int .i64 y,.bool hd,.int .u8 mo,.str ti,.vec .str l],.agg [.int .i64 k',.int .i64 r',.vec .cell L',.int .i64 x',.int .i64 y',.bool hd',.int .u8 mo',.str ti',.vec .str l'],.int .i64 m]) fun ⟨k,r,L,x,y,hd,mo,ti,l,k',r',L',x',y',hd',mo',ti',l',m⟩=>(L.length≤60000∧L'.length≤60000∧(-10000≤m * k∧m * k≤10000),.ret (.int .i64 (cntF (fun i=>jfF L (i+m * k)) (cAt L') L'.length)))
theorem jbc (k:Int) (r:Int) (L:List CD) (x:Int) (y:Int) (hd:Bool) (mo:Int) (ti:ByteArray) (l:List ByteArray) (k':Int) (r':Int) (L':List CD) (x':Int) (y':Int) (hd':Bool) (mo':Int) (ti':ByteArray) (l':List ByteArray) (m:Int):sp_differs [.agg [.int .i64 k,.int .i64 r,.vec .cell L,.int .i64 x,.int .i64 y,.bool hd,.int .u8 mo,.str ti,.vec .str l],.agg [.int .i64 k',.int .i64 r',.vec .cell L',.int .i64 x',.int .i64 y',.bool hd',.int .u8 mo',.str ti',.vec .str l'],.int .i64 m]=some (L.length≤60000∧L'.length≤60000∧(-10000≤m * k∧m * k≤10000),.ret (.int .i64 (cntF (fun i=>jfF L (i+m * k)) (cAt L') L'.length))):=jar (α:=Int × Int × (List CD) × Int × Int × Bool × Int × ByteArray × (List ByteArray) × Int × Int × (List CD) × Int × Int × Bool × Int × ByteArray × (List ByteArray) × Int) _ (fun ⟨k,r,L,x,y,hd,mo,ti,l,k',r',L',x',y',hd',mo',ti',l',m⟩ ⟨k',r',L',x',y',hd',mo',ti',l',k'',r'',L'',x'',y'',hd'',mo'',ti'',l'',m'⟩ h=>by first | simpa [CP] using h | (simp [CP] at h ⊢; grind)) (k,r,L,x,y,hd,mo,ti,l,k',r',L',x',y',hd',mo',ti',l',m)
theorem jqa:Alias Tryz.prog E0 115 sp_differs:=Alias.of fun ⟨k,r,L,x,y,hd,mo,ti,l,k',r',L',x',y',hd',mo',ti',l',m⟩ hG=>TF.intro (V:=(VV [(126,conF [.any] sp_cblank)] (.cons (jaa jdw) (Fresh.soundF jjz) GOk.nil) 53 0)) jef rfl rfl (by
 dsimp only at hG ⊢
 obtain ⟨hL,hL',hm⟩:=hG
 repeat' first | simp only [SB,E,seval,rdB,ne_eq,implies_true,jaw] | simp only [hw3] | refine T.seq ?_ | refine T.stm ?_ | refine T.rg ?_ | refine jac ?_ | refine jad ?_ | refine jae ?_ | refine T.cond ?_ | refine T.skip ?_ | refine T.ret ?_ | refine T.exit ?_ | refine T.block ?_ | refine Cos.intro [] [] rfl ?_ | refine And.intro ?_ ?_ | (intro p0; have hyp:=p0; (try simp only [HB,ne_eq,reduceCtorEq] at hyp); (try simp only [p0]); (try clear p0); try (exfalso; omega; done)) | omega
 refine T.loop (fun i:Nat=>⟨[(3,.ptr 0 0 0),(7,.int .i64 (cntF (fun i=>jfF L (i+m * k)) (cAt L') i)),(8,.int .i64 (m * k)),(17,.vec .cell L'),(18,.int .i64 L'.length),(19,.int .i64 i)],[.box [.int .i64 k,.int .i64 r,.vec .cell L,.int .i64 x,.int .i64 y,.bool hd,.int .u8 mo,.str ti,.vec .str l]]⟩) (fun i=>i≤L'.length) (fun i=>L'.length - i) 0 (by omega) (Cos.intro [0] [] rfl (by simp only [SB,E,seval,rdB,ne_eq,implies_true,jaw]; simp [cntF])) (fun i hi=>?_)
 have hct:=jrQ (fun i=>jfF L (i+m * k)) (cAt L') i
 have hcs:=jrP (fun i=>jfF L (i+m * k)) (cAt L') i
 by_cases hil:i < L'.length
 ·rw [jgl hil] at hcs
  by_cases hin:0≤(i:Int)+m * k∧(i:Int)+m * k < L.length
  ·have e:jfF L ((i:Int)+m * k)=L.getD ((i:Int)+m * k).toNat default:=by
    unfold jfF
    rw [if_pos hin,jgl (by omega)]
   rw [e] at hcs
   unfold jga at hcs
   repeat' first | simp only [SB,E,seval,rdB,ne_eq,implies_true,jaw] | simp only [hw3] | apply tA | apply tB | apply tC | apply tD | apply tE | apply tF | apply tG | apply tH | apply tI | apply tJ | apply tK | apply And.intro | (intro p0; have hyp:=p0; (try simp only [HB,ne_eq,reduceCtorEq] at hyp); (try simp only [p0]); (try clear p0); try (exfalso; omega; done)) | omega
   ·refine ⟨i+1,by omega,by omega,Cos.intro [0] [] rfl ?_⟩
    rw [hcs,if_neg (fun q=>hyp (of_decide_eq_true q))]
    (simp only [SB,E,seval,rdB,ne_eq,implies_true,jaw]; first | done | ((repeat' apply And.intro) <;> first | rfl | omega | (simp; done) | (simp; omega)))
   ·refine ⟨i+1,by omega,by omega,Cos.intro [0] [] rfl ?_⟩
    rw [hcs,if_pos (decide_eq_true hyp)]
    (simp only [SB,E,seval,rdB,ne_eq,implies_true,jaw]; first | done | ((repeat' apply And.intro) <;> first | rfl | omega | (simp; done) | (simp; omega)))
  ·have e:jfF L ((i:Int)+m * k)=blank0:=if_neg hin
   rw [e] at hcs
   unfold jga at hcs
   have hw3:jgv { fg:=0,bg:=0,attrs:=0,link:=0 }=blank0:=rfl
   repeat' first | simp only [SB,E,seval,rdB,ne_eq,implies_true,jaw] | simp only [hw3] | apply tA | apply tB | apply tC | apply tD | apply tE | apply tF | apply tG | apply tH | apply tI | apply tJ | apply tK | apply And.intro | (intro p0; have hyp:=p0; (try simp only [HB,ne_eq,reduceCtorEq] at hyp); (try simp only [p0]); (try clear p0); try (exfalso; omega; done)) | omega
   ·refine ⟨i+1,by omega,by omega,Cos.intro [0] [] rfl ?_⟩
    rw [hcs,if_neg (fun q=>hyp (of_decide_eq_true q))]
    (simp only [SB,E,seval,rdB,ne_eq,implies_true,jaw]; first | done | ((repeat' apply And.intro) <;> first | rfl | omega | (simp; done) | (simp; omega)))
   ·refine ⟨i+1,by omega,by omega,Cos.intro [0] [] rfl ?_⟩
    rw [hcs,if_pos (decide_eq_true hyp)]
    (simp only [SB,E,seval,rdB,ne_eq,implies_true,jaw]; first | done | ((repeat' apply And.intro) <;> first | rfl | omega | (simp; done) | (simp; omega)))
 ·obtain rfl:i=L'.length:=by omega
  repeat' first | simp only [SB,E,seval,rdB,ne_eq,implies_true,jaw] | simp only [hw3] | refine T.seq ?_ | refine T.stm ?_ | refine T.rg ?_ | refine jac ?_ | refine jad ?_ | refine jae ?_ | refine T.cond ?_ | refine T.skip ?_ | refine T.ret ?_ | refine T.exit ?_ | refine T.block ?_ | refine Cos.intro [] [] rfl ?_ | refine And.intro ?_ ?_ | (intro p0; have hyp:=p0; (try simp only [HB,ne_eq,reduceCtorEq] at hyp); (try simp only [p0]); (try clear p0); try (exfalso; omega; done)) | omega)
theorem jqb:Fresh Tryz.prog E0 115 sp_differs:=Alias.fresh jqa (fun x=>rfl)
theorem juo {m k:Int} (h1:-100≤m∧m≤100) (h2:0≤k∧k≤100):-10000≤m * k∧m * k≤10000:=by
 have a1:m * k≤100 * k:=Int.mul_le_mul_of_nonneg_right h1.2 h2.1
 have a2:-100 * k≤m * k:=Int.mul_le_mul_of_nonneg_right h1.1 h2.1
 omega
noncomputable def sp_best:Spec:=spOf (α:=Int × Int × (List CD) × Int × Int × Bool × Int × ByteArray × (List ByteArray) × Int × Int × (List CD) × Int × Int × Bool × Int × ByteArray × (List ByteArray)) (fun ⟨k,r,L,x,y,hd,mo,ti,l,k',r',L',x',y',hd',mo',ti',l'⟩=>[.agg [.int .i64 k,.int .i64 r,.vec .cell L,.int .i64 x,.int .i64 y,.bool hd,.int .u8 mo,.str ti,.vec .str l],.agg [.int .i64 k',.int .i64 r',.vec .cell L',.int .i64 x',.int .i64 y',.bool hd',.int .u8 mo',.str ti',.vec .str l']]) fun ⟨k,r,L,x,y,hd,mo,ti,l,k',r',L',x',y',hd',mo',ti',l'⟩=>(L.length≤60000∧L'.length≤60000∧(0≤k∧k≤100)∧(1≤r∧r≤100),.ret (.int .i64 (jeZ (fun m=>cntF (fun i=>jfF L (i+m * k)) (cAt L') L'.length) (r.toNat - 1)).1))
theorem jaB (k:Int) (r:Int) (L:List CD) (x:Int) (y:Int) (hd:Bool) (mo:Int) (ti:ByteArray) (l:List ByteArray) (k':Int) (r':Int) (L':List CD) (x':Int) (y':Int) (hd':Bool) (mo':Int) (ti':ByteArray) (l':List ByteArray):sp_best [.agg [.int .i64 k,.int .i64 r,.vec .cell L,.int .i64 x,.int .i64 y,.bool hd,.int .u8 mo,.str ti,.vec .str l],.agg [.int .i64 k',.int .i64 r',.vec .cell L',.int .i64 x',.int .i64 y',.bool hd',.int .u8 mo',.str ti',.vec .str l']]=some (L.length≤60000∧L'.length≤60000∧(0≤k∧k≤100)∧(1≤r∧r≤100),.ret (.int .i64 (jeZ (fun m=>cntF (fun i=>jfF L (i+m * k)) (cAt L') L'.length) (r.toNat - 1)).1)):=jar (α:=Int × Int × (List CD) × Int × Int × Bool × Int × ByteArray × (List ByteArray) × Int × Int × (List CD) × Int × Int × Bool × Int × ByteArray × (List ByteArray)) _ (fun ⟨k,r,L,x,y,hd,mo,ti,l,k',r',L',x',y',hd',mo',ti',l'⟩ ⟨k',r',L',x',y',hd',mo',ti',l',k'',r'',L'',x'',y'',hd'',mo'',ti'',l''⟩ h=>by first | simpa [CP] using h | (simp [CP] at h ⊢; grind)) (k,r,L,x,y,hd,mo,ti,l,k',r',L',x',y',hd',mo',ti',l')
theorem jwh:Alias Tryz.prog E0 86 sp_best:=Alias.of fun ⟨k,r,L,x,y,hd,mo,ti,l,k',r',L',x',y',hd',mo',ti',l'⟩ hG=>TF.intro (V:=(VV [(115,conF [.agg [.any,.any,.sl .cell,.any,.any,.any,.any,.any,.sl .str],.agg [.any,.any,.sl .cell,.any,.any,.any,.any,.any,.sl .str],.any] sp_differs)] (.cons (jaa jef) (Fresh.soundF jqb) GOk.nil) 40 0)) jf1 rfl rfl (by
 dsimp only at hG ⊢
 obtain ⟨hL,hL',hk,hr⟩:=hG
 obtain ⟨d,hD⟩:∃ d:Int→Nat,d=fun m=>cntF (fun i=>jfF L (i+m * k)) (cAt L') L'.length:=⟨_,rfl⟩
 have hw:∀ m:Int,cntF (fun i=>jfF L (i+m * k)) (cAt L') L'.length=d m:=fun m=>by rw [hD]
 have hdl:∀ m,d m≤L'.length:=fun m=>by rw [hD]; exact jrQ _ _ _
 have hmk:∀ m:Int,-100≤m∧m≤100 → -10000≤m * k∧m * k≤10000:=fun m h=>juo h hk
 have h00:=hmk 0 (by omega)
 repeat' first | simp only [SB,E,seval,rdB,ne_eq,implies_true,jbc] | simp only [hw] | refine T.seq ?_ | refine T.stm ?_ | refine T.rg ?_ | refine jac ?_ | refine jad ?_ | refine jae ?_ | refine T.cond ?_ | refine T.skip ?_ | refine T.ret ?_ | refine T.exit ?_ | refine T.block ?_ | refine Cos.intro [] [] rfl ?_ | refine And.intro ?_ ?_ | (intro p0; have hyp:=p0; (try simp only [HB,ne_eq,reduceCtorEq] at hyp); (try simp only [p0]); (try clear p0); try (exfalso; omega; done)) | omega
 refine T.loop (fun n:Nat=>⟨[(2,.ptr 0 0 0),(3,.ptr 1 0 0),(5,.int .i64 (jeZ d (n - 1)).1),(6,.int .i64 (jeZ d (n - 1)).2),(7,.int .i64 n)],[.box [.int .i64 k,.int .i64 r,.vec .cell L,.int .i64 x,.int .i64 y,.bool hd,.int .u8 mo,.str ti,.vec .str l],.box [.int .i64 k',.int .i64 r',.vec .cell L',.int .i64 x',.int .i64 y',.bool hd',.int .u8 mo',.str ti',.vec .str l']]⟩) (fun n=>1≤n∧n≤r.toNat) (fun n=>r.toNat - n) 1 (by omega) (Cos.intro [0,1] [] rfl (by simp only [SB,E,seval,rdB,ne_eq,implies_true,jbc]; simp [jeZ])) (fun n hn=>?_)
 have hbl:∀ j,(jeZ d j).2≤L'.length∧(-(j:Int)≤(jeZ d j).1∧(jeZ d j).1≤j):=fun j=>⟨by
  induction j with
  | zero=>exact hdl 0
  | succ j ih =>
   simp only [jeZ,jfm]
   have:=hdl ((j+1:Nat):Int)
   have:=hdl (-((j+1:Nat):Int))
   split <;> (try split) <;> (try simp only) <;> omega,jlW d j⟩
 have hb1:=hbl (n - 1)
 by_cases hnr:n < r.toNat
 ·repeat' first | simp only [SB,E,seval,rdB,ne_eq,implies_true,jbc] | simp only [hw] | apply tA | apply tB | apply tC | apply tD | apply tE | apply tF | apply tG | apply tH | apply tI | apply tJ | apply tK | apply And.intro | (intro p0; have hyp:=p0; (try simp only [HB,ne_eq,reduceCtorEq] at hyp); (try simp only [p0]); (try clear p0); try (exfalso; omega; done)) | omega
  obtain ⟨st,hst⟩:∃ st,st=jeZ d (n - 1):=⟨_,rfl⟩
  rw [← hst]
  refine T.loop (fun j:Nat=>⟨[(2,.ptr 0 0 0),(3,.ptr 1 0 0),(5,.int .i64 (innB d st n j).1),(6,.int .i64 (innB d st n j).2),(7,.int .i64 n),(23,.slice 2 0 1 2 2),(24,.int .i64 2),(25,.int .i64 j)],[.box [.int .i64 k,.int .i64 r,.vec .cell L,.int .i64 x,.int .i64 y,.bool hd,.int .u8 mo,.str ti,.vec .str l],.box [.int .i64 k',.int .i64 r',.vec .cell L',.int .i64 x',.int .i64 y',.bool hd',.int .u8 mo',.str ti',.vec .str l'],.seq (.int .i64) [n,-n]]⟩) (fun j=>j≤2) (fun j=>2 - j) 0 (by omega) (Cos.intro [0,1,2] [] rfl (by simp only [SB,E,seval,rdB,ne_eq,implies_true,jbc]; simp [innB])) (fun j hj=>?_)
  rw [← hst] at hb1
  have hdn:=hdl n
  have hdm:=hdl (-n)
  rcases (show j=0∨j=1∨j=2 by omega) with rfl | rfl | rfl
  ·have e0:innB d st n 0=st:=rfl
   have e1:innB d st n 1=jfm d st n:=rfl
   rw [e0]
   repeat' first | exact hmk _ (by omega) | simp only [SB,E,seval,rdB,ne_eq,implies_true,jbc] | simp only [hw] | apply tA | apply tB | apply tC | apply tD | apply tE | apply tF | apply tG | apply tH | apply tI | apply tJ | apply tK | apply And.intro | (intro p0; have hyp:=p0; (try simp only [HB,ne_eq,reduceCtorEq] at hyp); (try simp only [p0]); (try clear p0); try (exfalso; omega; done)) | omega
   ·exact ⟨1,by omega,by omega,Cos.intro [0,1,2] [] rfl (by rw [e1,(jfn d st n).1 (by omega)]; (simp only [SB,E,seval,rdB,ne_eq,implies_true,jbc]; first | done | ((repeat' apply And.intro) <;> first | rfl | omega | (simp; done) | (simp; omega))))⟩
   ·exact ⟨1,by omega,by omega,Cos.intro [0,1,2] [] rfl (by rw [e1,(jfn d st n).2 (by omega)]; (simp only [SB,E,seval,rdB,ne_eq,implies_true,jbc]; first | done | ((repeat' apply And.intro) <;> first | rfl | omega | (simp; done) | (simp; omega))))⟩
  ·have e1:innB d st n 1=jfm d st n:=rfl
   have e2:innB d st n 2=jfm d (jfm d st n) (-n):=rfl
   obtain ⟨su,hsu⟩:∃ su,su=jfm d st n:=⟨_,rfl⟩
   have hs2:su.2≤L'.length:=by
    rw [hsu]
    unfold jfm
    split <;> (try simp only) <;> omega
   rw [e1,← hsu]
   rw [← hsu] at e2
   repeat' first | exact hmk _ (by omega) | simp only [SB,E,seval,rdB,ne_eq,implies_true,jbc] | simp only [hw] | apply tA | apply tB | apply tC | apply tD | apply tE | apply tF | apply tG | apply tH | apply tI | apply tJ | apply tK | apply And.intro | (intro p0; have hyp:=p0; (try simp only [HB,ne_eq,reduceCtorEq] at hyp); (try simp only [p0]); (try clear p0); try (exfalso; omega; done)) | omega
   ·exact ⟨2,by omega,by omega,Cos.intro [0,1,2] [] rfl (by rw [e2,(jfn d su (-n)).1 (by omega)]; (simp only [SB,E,seval,rdB,ne_eq,implies_true,jbc]; first | done | ((repeat' apply And.intro) <;> first | rfl | omega | (simp; done) | (simp; omega))))⟩
   ·exact ⟨2,by omega,by omega,Cos.intro [0,1,2] [] rfl (by rw [e2,(jfn d su (-n)).2 (by omega)]; (simp only [SB,E,seval,rdB,ne_eq,implies_true,jbc]; first | done | ((repeat' apply And.intro) <;> first | rfl | omega | (simp; done) | (simp; omega))))⟩
  ·have e2:innB d st n 2=jeZ d n:=by
    obtain ⟨z,rfl⟩:∃ z,n=z+1:=⟨n - 1,by omega⟩
    rw [hst]
    rfl
   rw [e2]
   repeat' first | simp only [SB,E,seval,rdB,ne_eq,implies_true,jbc] | simp only [hw] | apply tA | apply tB | apply tC | apply tD | apply tE | apply tF | apply tG | apply tH | apply tI | apply tJ | apply tK | apply And.intro | (intro p0; have hyp:=p0; (try simp only [HB,ne_eq,reduceCtorEq] at hyp); (try simp only [p0]); (try clear p0); try (exfalso; omega; done)) | omega
   exact ⟨n+1,by omega,by omega,Cos.intro [0,1] [] rfl (by rw [Nat.add_sub_cancel]; (simp only [SB,E,seval,rdB,ne_eq,implies_true,jbc]; first | done | ((repeat' apply And.intro) <;> first | rfl | omega | (simp; done) | (simp; omega))))⟩
 ·obtain rfl:n=r.toNat:=by omega
  repeat' first | simp only [SB,E,seval,rdB,ne_eq,implies_true,jbc] | simp only [hw] | refine T.seq ?_ | refine T.stm ?_ | refine T.rg ?_ | refine jac ?_ | refine jad ?_ | refine jae ?_ | refine T.cond ?_ | refine T.skip ?_ | refine T.ret ?_ | refine T.exit ?_ | refine T.block ?_ | refine Cos.intro [] [] rfl ?_ | refine And.intro ?_ ?_ | (intro p0; have hyp:=p0; (try simp only [HB,ne_eq,reduceCtorEq] at hyp); (try simp only [p0]); (try clear p0); try (exfalso; omega; done)) | omega)
theorem jwi:Fresh Tryz.prog E0 86 sp_best:=Alias.fresh jwh (fun x=>rfl)
end
end Go.Proofs.YtcfkfgkndncanaaGreatDoor
