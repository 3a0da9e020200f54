/- Texts of this claim, merged by a program of this claim: DoorB. -/
import Derived.Test.YtcfkfgkndncanaaGreatDoorMa50
import Derived.Test.YtcfkfgkndncanaaGreatDoorMa7
namespace Go.Proofs.YtcfkfgkndncanaaGreatDoor
set_option linter.unusedVariables false
set_option linter.unusedSimpArgs false
section
open Go.ChangeShapes Go.WideShapes Go.ChangeAt Go.RowKit Go.Deep Go.Joins
set_option maxRecDepth 100000
theorem jxb {w:World}{A:Option Addr}{L:List Int}{cap:Nat}(hr:jw7 w A (L.flatMap fun b=>[Value.int .u8 b])) (hL:L.length≤cap):VRel (je3 w) noF (.vec (.int .u8) L) (.slice A L.length cap) :=
 joO (t:=.int .u8) (fun b=>[Value.int .u8 b]) (fun _=>rfl) (fun x k c u h1 h2=>by
  match k with
  | 0=>cases h1;cases h2;exact .int _ _
  | n+1=>cases h2) (fun _=>rfl) (by decide) hr hL
theorem jtN {H:Type}{enc:TypeId×Value→H}{W:World}{v:Value}{d:DataW H}{p:List MemPlace}{base0:Nat}(hv:Value.okWide Tryz.prog W .any base0 26 v) (h:DataW.Trod enc Tryz.prog W 0 (fun _=>true) true 26 v d p) :
  ∃L:List Int,VRel (je3 W) noF (.vec (.int .u8) L) v∧Bts L:=by
 obtain⟨n,hf⟩:=h
 obtain⟨fuel,hf⟩:∃fuel,DataW.trod enc Tryz.prog W 0 (fun _=>true) true fuel 26 [v]=some (d,p):=by
  obtain⟨a,c,cc,rfl⟩:=okWide_slice Tryz.underlying26 hv
  exact⟨n,hf⟩
 rcases jd3 (C:=1) Tryz.underlying26 (by kernel_rfl) hf with hcs|⟨a,len,cap,m,hcs,hl,hm,hlm,hi⟩
 ·simp at hcs
  subst hcs
  exact⟨[],.vec0 _ _ _,fun c hc=>by cases hc⟩
 ·simp at hcs
  subst hcs
  obtain⟨L,hL,hr,hp⟩:=jl7 (w:=W) (a:=a) (k:=1) (len:=len) (fun b:Int=>[Value.int .u8 b]) (by omega) (fun _=>rfl) (fun x=>0≤x∧x<256) (fun i hil=>by
   obtain⟨ys,n,y,hyl,hc,ht⟩:=hi i (by omega)
   match ys,hyl with
   | [y0],_ =>
    obtain⟨b,rfl,hb⟩:=jc6 Tryz.underlying5 ht
    exact⟨b,hc,jkh hb⟩)
  refine⟨L,?_,hp⟩
  rw[←hL]at hl ⊢
  exact jxb hr hl
end
end Go.Proofs.YtcfkfgkndncanaaGreatDoor
