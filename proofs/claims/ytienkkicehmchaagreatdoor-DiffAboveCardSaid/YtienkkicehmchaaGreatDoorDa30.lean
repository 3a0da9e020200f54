/- Texts of this claim, merged by a program of this claim: FProj. -/
import Derived.Test.YtienkkicehmchaaGreatDoorDa15
import Derived.Test.YtienkkicehmchaaGreatDoorDa25
import Derived.Test.YtienkkicehmchaaGreatDoorDa26
import Derived.Test.YtienkkicehmchaaGreatDoorDa29
namespace Go.Proofs.YtienkkicehmchaaGreatDoor
set_option linter.unusedVariables false
set_option linter.unusedSimpArgs false
section
open Go.RowKit
set_option maxRecDepth 100000
set_option maxHeartbeats 4000000
abbrev jpt (c:CD) (f:Int):List CV:=[jaJ c,.int .u32 f]
abbrev jpu (c:CD) (f:Int):Prop×Res:=(CWf c∧U32 f,.ret (jaJ (fitC f c)))
noncomputable def sp_pfit:Spec:=spOf (α:=CD×Int) (fun⟨c,f⟩=>jpt c f) fun⟨c,f⟩=>jpu c f
theorem jcF (c:CD) (f:Int):sp_pfit (jpt c f)=some (jpu c f):=jad _ injS (c,f)
theorem js0:Alias Tryz.prog E1 44 sp_pfit:=Alias.of fun⟨c,f⟩ hG=>TF.intro (V:=(VV1 [(96,conF [.any,.any] sp_cfit)] (.cons (jaa jgN) (Fresh.soundF jsF) GOk.nil) 40 0)) jez rfl rfl (by
 dsimp only[jpt,jpu]at hG ⊢
 obtain⟨hc,hf⟩:=hG
 have n1:f.toNat &&& 8≤f.toNat:=Nat.and_le_left
 have n2:f.toNat &&& 4≤f.toNat:=Nat.and_le_left
 have h1:=hc.fg
 have h2:=hc.bg
 repeat' first|exact hf|exact h1|exact h2|simp only[SA,seval,rdB,jmO,ja2,jax]|refine tT ?_|refine Cos.intro [] [] rfl ?_|refine And.intro ?_ ?_|exact tC|(refine tI ?_;intro hyp)|intro hyp0|omega
 all_goals
  simp only[fitC,hasB,decide_eq_true_eq]
  grind)
theorem js1:Fresh Tryz.prog E1 44 sp_pfit:=Alias.fresh js0 (fun x=>rfl)
abbrev jhb (k:Int) (r:Int) (L:List CD) (x:Int) (y:Int) (hd:Bool) (mo:Int) (ti:ByteArray) (l:List ByteArray) (f:Int):List CV:=[.agg [.int .i64 k,.int .i64 r,.vec .cell L,.int .i64 x,.int .i64 y,.bool hd,.int .u8 mo,.str ti,.vec .str l],.int .u32 f]
abbrev jhc (k:Int) (r:Int) (L:List CD) (x:Int) (y:Int) (hd:Bool) (mo:Int) (ti:ByteArray) (l:List ByteArray) (f:Int):Prop×Res:=(ja9 k r L x y mo ti l=true∧ScrOk L l∧SLen ti∧U32 f,.ret (.agg [.int .i64 k,.int .i64 r,.vec .cell (L.map (fitC f)),.int .i64 x,.int .i64 y,.bool hd,.int .u8 (if hasB f 32=true then mo else 0),.str (if hasB f 16=true then ti else bs []),.vec .str (if hasB f 8=true then l else [])]))
noncomputable def sp_pscreen:Spec:=spOf (α:=Int×Int×(List CD)×Int×Int×Bool×Int×ByteArray×(List ByteArray)×Int) (fun⟨k,r,L,x,y,hd,mo,ti,l,f⟩=>jhb k r L x y hd mo ti l f) fun⟨k,r,L,x,y,hd,mo,ti,l,f⟩=>jhc k r L x y hd mo ti l f
theorem jeJ (k:Int) (r:Int) (L:List CD) (x:Int) (y:Int) (hd:Bool) (mo:Int) (ti:ByteArray) (l:List ByteArray) (f:Int):sp_pscreen (jhb k r L x y hd mo ti l f)=some (jhc k r L x y hd mo ti l f):=jad _ injS (k,r,L,x,y,hd,mo,ti,l,f)
theorem jm6:Alias Tryz.prog E1 21 sp_pscreen:=Alias.of fun⟨k,r,L,x,y,hd,mo,ti,l,f⟩ hG=>TF.intro (V:=(VV1 [(41,conF [.agg [.any,.any,.sl .cell,.any,.any,.any,.any,.any,.sl .str]] sp_eright),(42,conT [.sl .cell] sp_clone),(43,conT [.sl .str] sp_sclone),(44,conF [.any,.any] sp_pfit)] (.cons (jaa jba) (upS (Fresh.soundF jeF)) (.cons (jaa ja6) (upS (Fresh.soundT jqL)) (.cons (jaa jby) (upS (Fresh.soundT joU)) (.cons (jaa jez) (Fresh.soundF js1) GOk.nil)))) 49 0)) jc1 rfl rfl (by
 dsimp only[jhb,jhc]at hG ⊢
 obtain⟨hR,hs,ht,hf⟩:=hG
 have hw:=hR
 have hl:=hs.len
 have hl2:=hs.links
 have n1:f.toNat &&& 8≤f.toNat:=Nat.and_le_left
 have n2:f.toNat &&& 16≤f.toNat:=Nat.and_le_left
 have n3:f.toNat &&& 32≤f.toNat:=Nat.and_le_left
 repeat' first|exact hs|exact ht|simp only[SA,seval,rdB,jaH,jb5,jbz,jcF,ja2,jax]|simp only[hw]|refine tT ?_|refine And.intro ?_ ?_|exact tC|(refine tI ?_;intro hyp)|intro hyp0|omega
 refine T.loop (fun i:Nat=>⟨[(1,.int .u32 f),(2,.ptr 0 0 0),(4,.ptr 1 0 0),(20,.int .i64 L.length),(21,.int .i64 i)],[.box [.int .i64 k,.int .i64 r,.slice 2 0 6 L.length L.length,.int .i64 x,.int .i64 y,.bool hd,.int .u8 mo,.str ti,.slice 3 0 1 l.length l.length],.box [.int .i64 0,.int .i64 0,.nils,.int .i64 0,.int .i64 0,.bool false,.int .u8 0,.str (bs []),.nils],.seq .cell (half (fitC f) L i),.seq .str l]⟩) (fun i=>i≤L.length) (fun i=>L.length-i) 0 (by omega) (Cos.intro [0,1,2,3] [] rfl (by simp only[SA,seval,rdB,jaH,jb5,jbz,jcF,ja2,jax];simp[half])) (fun i hi=>?_)
 have hhl:=jqR (fitC f) L i
 by_cases hil:i<L.length
 ·have hw:=jps (fitC f) hil
  have hst:=jqU (fitC f) (jdm hil)
  have hcw:=hs.wf _ (jeE hil)
  repeat' first|exact hcw|exact hf|simp only[SA,seval,rdB,jaH,jb5,jbz,jcF,ja2,jax]|simp only[hw]|refine tT ?_|refine And.intro ?_ ?_|exact tC|(refine tI ?_;intro hyp)|intro hyp0|omega
  exact⟨i+1,by omega,by omega,Cos.intro [0,1,2,3] [] rfl (by rw[←hst];(simp only[SA,seval,rdB,jaH,jb5,jbz,jcF,ja2,jax]<;>exact tE))⟩
 ·have e:half (fitC f) L i=L.map (fitC f):=jqS _ _ _ (by omega)
  rw[e]
  have hlm:(L.map (fitC f)).length=L.length:=by simp
  repeat' first|simp only[SA,seval,rdB,jaH,jb5,jbz,jcF,ja2,jax]|simp only[hw]|refine tT ?_|refine Cos.intro [] [0,1,2,3,4,5,6] rfl ?_|refine And.intro ?_ ?_|exact tC|(refine tI ?_;intro hyp)|intro hyp0|omega
  all_goals first
   | (rw[List.take_of_length_le (by omega)];done)
   | (simp only[hasB,decide_eq_true_eq];simp_all))
end
end Go.Proofs.YtienkkicehmchaaGreatDoor
