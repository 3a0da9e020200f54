/- Texts of this claim, merged by a program of this claim: AboveM. -/
import Derived.Test.YtienkkicehmchaaGreatDoorDa13
import Derived.Test.YtienkkicehmchaaGreatDoorDa18
namespace Go.Proofs.YtienkkicehmchaaGreatDoor
set_option linter.unusedVariables false
set_option linter.unusedSimpArgs false
section
open Go.RowKit
theorem jsW (f:Int) (a b:Nat) (h:a &&& b=0):hasB (((f.toNat &&& a:Nat):Int)) b=false:=by
 unfold hasB
 rw[Int.toNat_natCast,Nat.and_assoc,h,Nat.and_zero]
 rfl
def fitC (f:Int) (c:CD):CD:=⟨if hasB f 4=true∨c.wide=0 then c.rune else if c.wide=2 then 32 else 63,if hasB f 4=true then c.wide else 0,Col.fit c.fg f,Col.fit c.bg f,c.attrs,if hasB f 8=true then c.link else 0⟩
theorem jq5 {f:Int}{c:CD}(h:mayB c=true):mayB (fitC f c)=true:=by
 unfold mayB penB at h ⊢
 simp only[Bool.and_eq_true,Bool.or_eq_true,beq_iff_eq]at h ⊢
 obtain⟨⟨h1,h2⟩,h3⟩:=h
 refine⟨⟨(Col.fit_may f h1).1,(Col.fit_may f h2).1⟩,?_⟩
 have w1:Utf.width 32=1:=by decide
 have w2:Utf.width 63=1:=by decide
 unfold fitC
 dsimp only
 by_cases q:hasB f 4=true
 ·simpa[q] using h3
 ·rcases h3 with (⟨a,b⟩|⟨a,b⟩)|⟨a,b⟩<;>simp[q,a,b,w1,w2]
theorem ji8 {g:CD→CD}{L:List CD}{i:Nat}(h:i<L.length):cAt (L.map g) i=g (cAt L i):=by simp[cAt,h]
theorem jsX {f:Int}{L:List CD}(h:jbG L=true):jbG (L.map (fitC f))=true:=by
 unfold jbG at h ⊢
 simp only[Bool.and_eq_true,decide_eq_true_eq,List.all_eq_true,List.mem_range,bne_iff_ne,ne_eq,List.length_map]at h ⊢
 obtain⟨⟨h1,h2⟩,h3⟩:=h
 refine⟨⟨h1,fun i hi=>?_⟩,?_⟩
 ·obtain⟨a,b,c⟩:=(jcA L i).1 (h2 i hi)
  rw[jcA,ji8 hi,ji8 (show i-1<L.length by omega)]
  refine⟨jq5 a,?_,fun h0 hw=>?_⟩
  ·unfold fitC
   dsimp only
   by_cases q:hasB f 4=true
   ·simpa[q] using b
   ·simp[q]
  ·unfold fitC at hw
   dsimp only at hw
   by_cases q:hasB f 4=true
   ·rw[if_pos q]at hw
    have:=c h0 hw
    simp only[CD.pen,PD.mk.injEq]at this ⊢
    unfold fitC
    dsimp only
    rw[this.1,this.2.1,this.2.2.1,this.2.2.2]
    simp
   ·rw[if_neg q]at hw
    cases hw
 ·rw[ji8 (by omega)]
  unfold fitC
  dsimp only
  split
  ·exact h3
  ·decide
theorem jq6 {f k r:Int}{L:List CD}(h:jb9 k r L=true):jb9 k r (L.map (fitC f))=true:=by
 unfold jb9 at h ⊢
 simp only[Bool.and_eq_true,List.all_eq_true,List.length_map]at h ⊢
 refine⟨h.1,fun y hy=>?_⟩
 have:=jsX (f:=f) (h.2 y hy)
 unfold jbH at this ⊢
 rwa [List.map_take,List.map_drop]at this
theorem jsY (m:Nat) (g:CD→CD) (hg:∀c,(g c).link=c.link) (L:List CD):jbR m (L.map g)=jbR m L:=by
 unfold jbR
 rw[List.foldl_map]
 simp only[hg]
theorem jq7 (g:CD→CD) (hg:∀c,(g c).link=0) (L:List CD):jbR 0 (L.map g)=some 0:=by
 unfold jbR
 rw[List.foldl_map]
 simp only[hg]
 induction L with
 | nil=>rfl
 | cons c L ih=>simpa using ih
theorem jpn {f:Int}{L:List CD}{l:List ByteArray}(h:jci L l=true):jci (L.map (fitC f)) (if hasB f 8=true then l else [])=true:=by
 by_cases q:hasB f 8=true
 ·rw[if_pos q]
  unfold jci at h ⊢
  rwa [jsY _ _ (fun c=>by simp[fitC,q])]
 ·rw[if_neg q]
  unfold jci
  show (decide (0≤16)&&(List.range 0).all (jeC [])&&decide (jbR 0 (L.map (fitC f))=some ((0:Nat):Int)))=true
  simp only[jq7 (fitC f) (fun c=>by simp[fitC,q])]
  rfl
theorem jt2:jdj (bs [])=true:=by decide +kernel
theorem jpo {f k r:Int}{L:List CD}{x y mo:Int}{ti:ByteArray}{l:List ByteArray}(h:ja9 k r L x y mo ti l=true) :
  ja9 k r (L.map (fitC f)) x y (if hasB f 32=true then mo else 0) (if hasB f 16=true then ti else bs []) (if hasB f 8=true then l else [])=true:=by
 unfold ja9 at h ⊢
 simp only[Bool.and_eq_true,decide_eq_true_eq]at h ⊢
 obtain⟨⟨⟨⟨⟨⟨⟨⟨h1,h2⟩,h3⟩,h4⟩,h5⟩,h6⟩,h7⟩,h8⟩,h9⟩:=h
 refine⟨⟨⟨⟨⟨⟨⟨⟨jq6 h1,jpn h2⟩,h3⟩,h4⟩,h5⟩,h6⟩,?_⟩,?_⟩,?_⟩
 ·split<;>omega
 ·split
  ·exact h8
  ·decide
 ·split
  ·exact h9
  ·exact jt2
end
end Go.Proofs.YtienkkicehmchaaGreatDoor
