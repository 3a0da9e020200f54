/- Texts of this claim, merged by a program of this claim: Door1. -/
import Derived.Test.YtienkkicehmchaaGreatDoorDa43
import Derived.Test.YtienkkicehmchaaGreatDoorDa6
namespace Go.Proofs.YtienkkicehmchaaGreatDoor
set_option linter.unusedVariables false
set_option linter.unusedSimpArgs false
section
open Go.ChangeShapes Go.WideShapes Go.ChangeAt Go.RowKit Go.Deep Go.Joins
set_option maxRecDepth 100000
def jp4:List (List Int):=[[0,0,0],[205,0,0],[0,205,0],[205,205,0],[0,0,238],[205,0,205],[0,205,205],[229,229,229],[127,127,127],[255,0,0],[0,255,0],[255,255,0],[92,92,255],[255,0,255],[0,255,255],[255,255,255]]
theorem jni:jp4.flatten=firstI:=rfl
theorem jrG:Tryz.prog.globalNamed "spyglass/color.first" = some 2:=by kernel_rfl
theorem jnj:(Tryz.prog.globals[2]?).map (·.type)=some 228:=by kernel_rfl
theorem jp5:Tryz.prog.globalNamed "spyglass/color.levels" = some 3:=by kernel_rfl
theorem jlw:(Tryz.prog.globals[3]?).map (·.type)=some 146:=by kernel_rfl
theorem jmp {W:World}{name:String}{g:Nat}{k:IntKind}{zs:List Int}(hg:Tryz.prog.globalNamed name=some g) (h:Lib.TabIs Tryz.prog W name k zs):∃t fr,W.heap[g]?=some (.cells (zs.map (Value.int k)).toArray t fr):=by
 unfold Lib.TabIs World.var? at h
 rw[hg]at h
 simp only[Option.bind_some]at h
 split at h
 ·rename_i cs t fr e
  injection h with h
  subst h
  exact⟨_,_,e⟩
 ·cases h
def Tabs (w:World):Prop:=Tab w∧(∃t fr,w.heap[2]?=some (.cells (firstI.map (Value.int .u8)).toArray t fr))∧(∃t fr,w.heap[3]?=some (.cells (levelsI.map (Value.int .i64)).toArray t fr))
theorem jue {W:World}(h:laidMet Tryz.prog [("spyglass/utf.none",Rows.laid_spyglass_utf_none),("spyglass/utf.wide",Rows.laid_spyglass_utf_wide),("spyglass/color.first",Rows.laid_spyglass_color_first),("spyglass/color.levels",Rows.laid_spyglass_color_levels)] W):Tabs W:=by
 have h1:=jdo (rows:=Utf.nones) juc jpU Tryz.underlying154 Tryz.underlying153 Tryz.underlying21 jpX jpW jtk h
 have h2:=jdo (rows:=Utf.wides) jud jpV Tryz.underlying155 Tryz.underlying153 Tryz.underlying21 jpX jpW jtl h.tail
 have h3:Lib.TabIs Tryz.prog W "spyglass/color.first" .u8 jp4.flatten:=jdo (rows:=jp4) jrG jnj Tryz.underlying228 Tryz.underlying227 Tryz.underlying5 (by kernel_rfl) (by kernel_rfl) (by kernel_rfl) h.tail.tail
 have h4:Lib.TabIs Tryz.prog W "spyglass/color.levels" .i64 levelsI:=Lib.tabIs_of_head jp5 jlw Tryz.underlying146 Tryz.underlying3 (by kernel_rfl) (by kernel_rfl) h.tail.tail.tail
 exact⟨⟨jfM juc h1,jfM jud h2⟩,jmp jrG (jni▸h3),jmp jp5 h4⟩
theorem juf {w:World}(T:Tabs w):EnvOk E1 (jbS w):=fun g cs hg=>by
 obtain⟨T0,⟨t1,r1,h1⟩,⟨t2,r2,h2⟩⟩:=T
 have key:∀(q:IntKind) (zs:List Int) (f:LMap) (k:Nat) (c:CV),(zs.map (CV.int q))[k]?=some c→∃v,((zs.map (Value.int q)).toArray)[k]?=some v∧VRel (jbS w) f c v:=fun q zs f k c hk=>by
  rw[List.getElem?_map]at hk
  obtain⟨z,hz,rfl⟩:=Option.map_eq_some_iff.1 hk
  exact⟨.int q z,by simp[hz],.int q z⟩
 unfold E1 at hg
 split at hg
 ·rename_i e
  subst e
  cases hg
  exact⟨_,t1,r1,h1,key _ _⟩
 ·split at hg
  ·rename_i e
   subst e
   cases hg
   exact⟨_,t2,r2,h2,key _ _⟩
  ·exact jur T0 g cs hg
noncomputable def jft (os:Os):World :=
 { jki os with heap:=((jki os).heap.modify 2 (jf3 (firstI.map (Value.int .u8)).toArray)).modify 3 (jf3 (levelsI.map (Value.int .i64)).toArray) }
end
end Go.Proofs.YtienkkicehmchaaGreatDoor
