/- Texts of this claim, merged by a program of this claim: FLinks. -/
import Derived.Test.YtcfkfgkndncanaaGreatDoorMs13
import Derived.Test.YtcfkfgkndncanaaGreatDoorMs18
import Derived.Test.YtcfkfgkndncanaaGreatDoorMs19
namespace Go.Proofs.YtcfkfgkndncanaaGreatDoor
set_option linter.unusedVariables false
set_option linter.unusedSimpArgs false
section
open Go.RowKit
set_option maxRecDepth 100000
set_option maxHeartbeats 4000000
theorem jmk (s:ByteArray) (i:Nat):(jan s).getD i 0=((s.data.toList.getD i 0).toNat:Int):=by
 simp only[jan,List.getD_eq_getElem?_getD,List.getElem?_map]
 cases s.data.toList[i]?<;>rfl
def chrB (s:ByteArray) (i:Nat):Bool:=decide (33≤(s.data.toList.getD i 0).toNat)&&decide ((s.data.toList.getD i 0).toNat≤126)
theorem jgo (s:ByteArray):jdg s=(decide (1≤s.size)&&decide (s.size≤64)&&(List.range s.size).all (chrB s)):=rfl
abbrev SLen (s:ByteArray):Prop:=s.size≤9223372036854775807
abbrev jwq (s:ByteArray):List CV:=[.str s]
abbrev jwr (s:ByteArray):Prop×Res:=(SLen s,.ret (.bool (jdg s)))
noncomputable def sp_lmay:Spec:=spOf (α:=ByteArray) (fun s=>jwq s) fun s=>jwr s
theorem jaR (s:ByteArray):sp_lmay (jwq s)=some (jwr s):=jak _ injS s
theorem jA9:Alias Tryz.prog E0 99 sp_lmay:=Alias.of fun s hG=>TF.intro (V:=(VV [] GOk.nil 28 0)) jeA rfl rfl (by
 dsimp only[jwq,jwr]at hG ⊢
 repeat' first|simp only[SA,seval,rdB,List.drop_replicate,List.set_set]|simp only[hw]|refine tT ?_|refine And.intro ?_ ?_|exact tC|(refine tI ?_;intro hyp)|intro hyp0|omega
 refine T.loop (fun k:Nat=>⟨[(0,.str s),(5,.int .i64 s.size),(6,.int .i64 k)],[]⟩) (fun k=>k≤s.size∧∀j,j<k→chrB s j=true) (fun k=>s.size-k) 0 ⟨by omega,fun j hj=>by omega⟩ (Cos.intro [] [] rfl (by (simp only[SA,seval,rdB,List.drop_replicate,List.set_set]);first|done|(repeat' apply And.intro)<;>first|rfl|omega|simp)) (fun k ⟨hk,hall⟩=>?_)
 have hw:=jmk s k
 repeat' first|simp only[SA,seval,rdB,List.drop_replicate,List.set_set]|simp only[hw]|refine tT ?_|refine Cos.intro [] [] rfl ?_|refine And.intro ?_ ?_|exact tC|(refine tI ?_;intro hyp)|intro hyp0|omega
 ·rw[jgo,jbW (by omega:k<s.size) (by simp only[chrB,HB,ne_eq,reduceCtorEq];omega),Bool.and_false]
 ·exact⟨k+1,⟨by omega,jew (by simp only[chrB,HB,ne_eq,reduceCtorEq];omega) hall⟩,by omega,(Cos.intro [] [] rfl (by (simp only[SA,seval,rdB,List.drop_replicate,List.set_set]);first|done|(repeat' apply And.intro)<;>first|rfl|omega|simp))⟩
 ·rw[jgo,jdf (n:=s.size) (k:=k) (by omega) hall,Bool.and_true]
  rw[←Bool.decide_and,←Bool.decide_and]
  exact decide_eq_decide.2 (by omega))
theorem jqH:Fresh Tryz.prog E0 99 sp_lmay:=Alias.fresh jA9 (fun x=>rfl)
abbrev jqI (s:ByteArray):List CV:=[.str s]
abbrev jqJ (s:ByteArray):Prop×Res:=(SLen s,.ret (.bool (jdg s)))
noncomputable def sp_rlmay:Spec:=spOf (α:=ByteArray) (fun s=>jqI s) fun s=>jqJ s
theorem jk1 (s:ByteArray):sp_rlmay (jqI s)=some (jqJ s):=jak _ injS s
theorem jyM:Alias Tryz.prog E0 70 sp_rlmay:=Alias.of fun s hG=>TF.intro (V:=(VV [] GOk.nil 28 0)) joZ rfl rfl (by
 dsimp only[jqI,jqJ]at hG ⊢
 repeat' first|simp only[SA,seval,rdB,List.drop_replicate,List.set_set]|simp only[hw]|refine tT ?_|refine Cos.intro [] [] rfl ?_|refine And.intro ?_ ?_|exact tC|(refine tI ?_;intro hyp)|intro hyp0|omega
 ·rw[jgo,←Bool.decide_and,decide_eq_false (by omega),Bool.false_and]
 refine T.loop (fun k:Nat=>⟨[(0,.str s),(3,.int .i64 k)],[]⟩) (fun k=>k≤s.size∧∀j,j<k→chrB s j=true) (fun k=>s.size-k) 0 ⟨by omega,fun j hj=>by omega⟩ (Cos.intro [] [] rfl (by (simp only[SA,seval,rdB,List.drop_replicate,List.set_set]);first|done|(repeat' apply And.intro)<;>first|rfl|omega|simp)) (fun k ⟨hk,hall⟩=>?_)
 have hw:=jmk s k
 repeat' first|simp only[SA,seval,rdB,List.drop_replicate,List.set_set]|simp only[hw]|refine tT ?_|refine Cos.intro [] [] rfl ?_|refine And.intro ?_ ?_|exact tC|(refine tI ?_;intro hyp)|intro hyp0|omega
 ·rw[jgo,jbW (by omega:k<s.size) (by simp only[chrB,HB,ne_eq,reduceCtorEq];omega),Bool.and_false]
 ·exact⟨k+1,⟨by omega,jew (by simp only[chrB,HB,ne_eq,reduceCtorEq];omega) hall⟩,by omega,(Cos.intro [] [] rfl (by (simp only[SA,seval,rdB,List.drop_replicate,List.set_set]);first|done|(repeat' apply And.intro)<;>first|rfl|omega|simp))⟩
 ·rw[jgo,jdf (n:=s.size) (k:=k) (by omega) hall,Bool.and_true,←Bool.decide_and,decide_eq_true (by omega)])
theorem jyN:Fresh Tryz.prog E0 70 sp_rlmay:=Alias.fresh jyM (fun x=>rfl)
abbrev jnG (l:List ByteArray) (s:ByteArray):List CV:=[.vec .str l,.str s]
abbrev jnH (l:List ByteArray) (s:ByteArray):Prop×Res:=(l.length≤4611686018427387904,.ret (.int .i64 (jaS l s)))
noncomputable def sp_sindex:Spec:=spOf (α:=(List ByteArray)×ByteArray) (fun⟨l,s⟩=>jnG l s) fun⟨l,s⟩=>jnH l s
theorem jba (l:List ByteArray) (s:ByteArray):sp_sindex (jnG l s)=some (jnH l s):=jak _ injS (l,s)
theorem jws:Alias Tryz.prog E0 114 sp_sindex:=Alias.of fun⟨l,s⟩ hG=>TF.intro (V:=(VV [] GOk.nil 19 0)) jbA rfl rfl (by
 dsimp only[jnG,jnH]at hG ⊢
 repeat' first|simp only[SA,seval,rdB,List.drop_replicate,List.set_set]|refine tT ?_|refine And.intro ?_ ?_|exact tC|(refine tI ?_;intro hyp)|intro hyp0|omega
 refine T.loop (fun k:Nat=>⟨[(0,.vec .str l),(1,.str s),(7,.int .i64 l.length),(8,.int .i64 k)],[]⟩) (fun k=>k≤l.length∧∀(j:Nat) (x:ByteArray),j<k→l[j]?=some x→jhg x s=false) (fun k=>l.length-k) 0 ⟨by omega,fun j x hj=>by omega⟩ (Cos.intro [] [] rfl (by (simp only[SA,seval,rdB,List.drop_replicate,List.set_set]);first|done|(repeat' apply And.intro)<;>first|rfl|omega|simp)) (fun k ⟨hk,hall⟩=>?_)
 repeat' first|simp only[SA,seval,rdB,List.drop_replicate,List.set_set]|refine tT ?_|refine Cos.intro [] [] rfl ?_|refine And.intro ?_ ?_|exact tC|(refine tI ?_;intro hyp)|intro hyp0|omega
 ·exact (jfl l s k hall _ (jbH (d:=ETy.str.dflt) (by omega)) (jcT.2 (hyp.symm))).symm
 ·refine⟨k+1,⟨by omega,fun j x hj hx=>?_⟩,by omega,(Cos.intro [] [] rfl (by (simp only[SA,seval,rdB,List.drop_replicate,List.set_set]);first|done|(repeat' apply And.intro)<;>first|rfl|omega|simp))⟩
  by_cases e:j=k
  ·subst e
   rw[jbH (d:=ETy.str.dflt) (by omega)]at hx
   cases hx
   exact jex.2 (fun q=>hyp (q.symm))
  ·exact hall j x (by omega) hx
 ·exact (jkB l s (fun j x hx=>hall j x (by have:=(List.getElem?_eq_some_iff.1 hx).1;omega) hx)).symm)
theorem jk2:Fresh Tryz.prog E0 114 sp_sindex:=Alias.fresh jws (fun x=>rfl)
abbrev jnI (l:List ByteArray) (s:ByteArray):List CV:=[.vec .str l,.str s]
abbrev jnJ (l:List ByteArray) (s:ByteArray):Prop×Res:=(l.length≤4611686018427387904,.ret (.int .i64 (jaS l s)))
noncomputable def sp_rplace:Spec:=spOf (α:=(List ByteArray)×ByteArray) (fun⟨l,s⟩=>jnI l s) fun⟨l,s⟩=>jnJ l s
theorem jbv (l:List ByteArray) (s:ByteArray):sp_rplace (jnI l s)=some (jnJ l s):=jak _ injS (l,s)
theorem jwt:Alias Tryz.prog E0 109 sp_rplace:=Alias.of fun⟨l,s⟩ hG=>TF.intro (V:=(VV [] GOk.nil 19 0)) jkX rfl rfl (by
 dsimp only[jnI,jnJ]at hG ⊢
 repeat' first|simp only[SA,seval,rdB,List.drop_replicate,List.set_set]|refine tT ?_|refine And.intro ?_ ?_|exact tC|(refine tI ?_;intro hyp)|intro hyp0|omega
 refine T.loop (fun k:Nat=>⟨[(0,.vec .str l),(1,.str s),(5,.int .i64 k)],[]⟩) (fun k=>k≤l.length∧∀(j:Nat) (x:ByteArray),j<k→l[j]?=some x→jhg x s=false) (fun k=>l.length-k) 0 ⟨by omega,fun j x hj=>by omega⟩ (Cos.intro [] [] rfl (by (simp only[SA,seval,rdB,List.drop_replicate,List.set_set]);first|done|(repeat' apply And.intro)<;>first|rfl|omega|simp)) (fun k ⟨hk,hall⟩=>?_)
 repeat' first|simp only[SA,seval,rdB,List.drop_replicate,List.set_set]|refine tT ?_|refine Cos.intro [] [] rfl ?_|refine And.intro ?_ ?_|exact tC|(refine tI ?_;intro hyp)|intro hyp0|omega
 ·exact (jfl l s k hall _ (jbH (d:=ETy.str.dflt) (by omega)) (jcT.2 (hyp))).symm
 ·refine⟨k+1,⟨by omega,fun j x hj hx=>?_⟩,by omega,(Cos.intro [] [] rfl (by (simp only[SA,seval,rdB,List.drop_replicate,List.set_set]);first|done|(repeat' apply And.intro)<;>first|rfl|omega|simp))⟩
  by_cases e:j=k
  ·subst e
   rw[jbH (d:=ETy.str.dflt) (by omega)]at hx
   cases hx
   exact jex.2 (fun q=>hyp (q))
  ·exact hall j x (by omega) hx
 ·exact (jkB l s (fun j x hx=>hall j x (by have:=(List.getElem?_eq_some_iff.1 hx).1;omega) hx)).symm)
theorem jwu:Fresh Tryz.prog E0 109 sp_rplace:=Alias.fresh jwt (fun x=>rfl)
abbrev jhl (l:List ByteArray) (s:ByteArray):List CV:=[.vec .str l,.str s]
abbrev jhm (l:List ByteArray) (s:ByteArray):Prop×Res:=(l.length≤4611686018427387904,.ret (.bool (decide (0≤jaS l s))))
noncomputable def sp_scontains:Spec:=spOf (α:=(List ByteArray)×ByteArray) (fun⟨l,s⟩=>jhl l s) fun⟨l,s⟩=>jhm l s
theorem jbp (l:List ByteArray) (s:ByteArray):sp_scontains (jhl l s)=some (jhm l s):=jak _ injS (l,s)
theorem jo0:Alias Tryz.prog E0 100 sp_scontains:=Alias.of fun⟨l,s⟩ hG=>TF.intro (V:=(VV [(114,conF [.sl .str,.any] sp_sindex)] (.cons (jaa jbA) (Fresh.soundF jk2) GOk.nil) 9 0)) jb6 rfl rfl (by
 dsimp only[jhl,jhm]at hG ⊢
 repeat' first|simp only[SA,seval,rdB,jba,List.drop_replicate,List.set_set]|refine tT ?_|refine Cos.intro [] [] rfl ?_|refine And.intro ?_ ?_|exact tC|(refine tI ?_;intro hyp)|intro hyp0|omega)
theorem jo1:Fresh Tryz.prog E0 100 sp_scontains:=Alias.fresh jo0 (fun x=>rfl)
abbrev jnK (L:List ByteArray):List CV:=[.vec .str L]
abbrev jnL (L:List ByteArray):Prop×Res:=(L.length≤1000000,.ret (.vec .str L))
noncomputable def sp_sclone:Spec:=spOf (α:=(List ByteArray)) (fun L=>jnK L) fun L=>jnL L
theorem jaN (L:List ByteArray):sp_sclone (jnK L)=some (jnL L):=jak _ injS L
theorem jo2:Fresh Tryz.prog E0 25 sp_sclone:=Fresh.of fun L hG=>TF.intro (V:=(VV [] GOk.nil 8 0)) jcC rfl rfl (by
 dsimp only[jnK,jnL]at hG ⊢
 repeat' first|simp only[SA,seval,rdB,List.drop_replicate,List.set_set]|refine tT ?_|refine Cos.row (t:=.str) rfl ?_ rfl (Nat.le_refl _)|exact Cos.nilRow (t:=.str) (by cases L<;>simp_all)|refine And.intro ?_ ?_|exact tC|(refine tI ?_;intro hyp)|intro hyp0|omega)
abbrev jnM (L:List ByteArray) (M:List ByteArray):List CV:=[.vec .str L,.vec .str M]
abbrev jnN (L:List ByteArray) (M:List ByteArray):Prop×Res:=(L.length≤4611686018427387904∧M.length≤4611686018427387904,.ret (.bool (decide (L=M))))
noncomputable def sp_rssame:Spec:=spOf (α:=(List ByteArray)×(List ByteArray)) (fun⟨L,M⟩=>jnM L M) fun⟨L,M⟩=>jnN L M
theorem jc3 (L:List ByteArray) (M:List ByteArray):sp_rssame (jnM L M)=some (jnN L M):=jak _ injS (L,M)
theorem jwv:Alias Tryz.prog E0 40 sp_rssame:=Alias.of fun⟨L,M⟩ hG=>TF.intro (V:=(VV [] GOk.nil 26 0)) jiF rfl rfl (by
 dsimp only[jnM,jnN]at hG ⊢
 repeat' first|simp only[SA,seval,rdB,List.drop_replicate,List.set_set]|refine tT ?_|refine Cos.intro [] [] rfl ?_|refine And.intro ?_ ?_|exact tC|(refine tI ?_;intro hyp)|intro hyp0|omega
 ·exact (decide_eq_false fun e=>by subst e;omega).symm
 ·refine T.loop (fun k:Nat=>⟨[(0,.vec .str L),(1,.vec .str M),(12,.int .i64 L.length),(13,.int .i64 k)],[]⟩) (fun k=>k≤L.length∧∀j,j<k→L[j]?=M[j]?) (fun k=>L.length-k) 0 ⟨by omega,fun j hj=>by omega⟩ (Cos.intro [] [] rfl (by (simp only[SA,seval,rdB,List.drop_replicate,List.set_set]);first|done|(repeat' apply And.intro)<;>first|rfl|omega|simp)) (fun k ⟨hk,hall⟩=>?_)
  repeat' first|simp only[SA,seval,rdB,List.drop_replicate,List.set_set]|refine tT ?_|refine Cos.intro [] [] rfl ?_|exact⟨k+1,⟨by omega,jgh (by omega) (by omega) hyp hall⟩,by omega,(Cos.intro [] [] rfl (by (simp only[SA,seval,rdB,List.drop_replicate,List.set_set]);first|done|(repeat' apply And.intro)<;>first|rfl|omega|simp))⟩|refine And.intro ?_ ?_|exact tC|(refine tI ?_;intro hyp)|intro hyp0|omega
  ·exact (decide_eq_false fun e=>by subst e;exact hyp rfl).symm
  ·exact (decide_eq_true (jhK (by omega) (by omega) hall)).symm)
theorem jo3:Fresh Tryz.prog E0 40 sp_rssame:=Alias.fresh jwv (fun x=>rfl)
abbrev jnO (L:List ByteArray) (M:List ByteArray):List CV:=[.vec .str L,.vec .str M]
abbrev jnP (L:List ByteArray) (M:List ByteArray):Prop×Res:=(L.length≤4611686018427387904∧M.length≤4611686018427387904,.ret (.bool (decide (L=M))))
noncomputable def sp_sequal:Spec:=spOf (α:=(List ByteArray)×(List ByteArray)) (fun⟨L,M⟩=>jnO L M) fun⟨L,M⟩=>jnP L M
theorem jal (L:List ByteArray) (M:List ByteArray):sp_sequal (jnO L M)=some (jnP L M):=jak _ injS (L,M)
theorem jww:Alias Tryz.prog E0 84 sp_sequal:=Alias.of fun⟨L,M⟩ hG=>TF.intro (V:=(VV [] GOk.nil 26 0)) jcB rfl rfl (by
 dsimp only[jnO,jnP]at hG ⊢
 repeat' first|simp only[SA,seval,rdB,List.drop_replicate,List.set_set]|refine tT ?_|refine Cos.intro [] [] rfl ?_|refine And.intro ?_ ?_|exact tC|(refine tI ?_;intro hyp)|intro hyp0|omega
 ·exact (decide_eq_false fun e=>by subst e;omega).symm
 ·refine T.loop (fun k:Nat=>⟨[(0,.vec .str L),(1,.vec .str M),(12,.int .i64 L.length),(13,.int .i64 k)],[]⟩) (fun k=>k≤L.length∧∀j,j<k→L[j]?=M[j]?) (fun k=>L.length-k) 0 ⟨by omega,fun j hj=>by omega⟩ (Cos.intro [] [] rfl (by (simp only[SA,seval,rdB,List.drop_replicate,List.set_set]);first|done|(repeat' apply And.intro)<;>first|rfl|omega|simp)) (fun k ⟨hk,hall⟩=>?_)
  repeat' first|simp only[SA,seval,rdB,List.drop_replicate,List.set_set]|refine tT ?_|refine Cos.intro [] [] rfl ?_|exact⟨k+1,⟨by omega,jgh (by omega) (by omega) hyp hall⟩,by omega,(Cos.intro [] [] rfl (by (simp only[SA,seval,rdB,List.drop_replicate,List.set_set]);first|done|(repeat' apply And.intro)<;>first|rfl|omega|simp))⟩|refine And.intro ?_ ?_|exact tC|(refine tI ?_;intro hyp)|intro hyp0|omega
  ·exact (decide_eq_false fun e=>by subst e;exact hyp rfl).symm
  ·exact (decide_eq_true (jhK (by omega) (by omega) hall)).symm)
theorem jwx:Fresh Tryz.prog E0 84 sp_sequal:=Alias.fresh jww (fun x=>rfl)
theorem jhX {l:List ByteArray}{i:Nat}(h:i<l.length):l.getD i ETy.str.dflt∈l:=List.mem_of_getElem? (jbH h)
theorem jo4 {l:List ByteArray}{v:Int}(h:¬v=0∧¬(l.length:Int)<v) (hb:jdg (l.getD (v-1).toNat ETy.str.dflt)=true):ja2 l v=l.getD (v-1).toNat ETy.str.dflt:=by
 unfold ja2
 rw[if_neg (by omega),show sAt l (v-1).toNat=l.getD (v-1).toNat ETy.str.dflt from rfl,if_pos hb]
theorem jnQ {l:List ByteArray}{v:Int}(h:(v=0∨(l.length:Int)<v)∨jdg (l.getD (v-1).toNat ETy.str.dflt)=false):ja2 l v=bs []:=by
 unfold ja2
 by_cases e:v=0∨(l.length:Int)<v
 ·rw[if_pos e];rfl
 ·rw[if_neg e,show sAt l (v-1).toNat=l.getD (v-1).toNat ETy.str.dflt from rfl,if_neg (by rw[h.resolve_left e];decide)];rfl
abbrev jnR (l:List ByteArray) (v:Int):List CV:=[.vec .str l,.int .u16 v]
abbrev jnS (l:List ByteArray) (v:Int):Prop×Res:=(l.length≤1000000∧(0≤v∧v<65536)∧(∀s∈l,SLen s),.ret (.str (ja2 l v)))
noncomputable def sp_rleads:Spec:=spOf (α:=(List ByteArray)×Int) (fun⟨l,v⟩=>jnR l v) fun⟨l,v⟩=>jnS l v
theorem jbw (l:List ByteArray) (v:Int):sp_rleads (jnR l v)=some (jnS l v):=jak _ injS (l,v)
theorem jwy:Alias Tryz.prog E0 108 sp_rleads:=Alias.of fun⟨l,v⟩ hG=>TF.intro (V:=(VV [(70,conF [.any] sp_rlmay)] (.cons (jaa joZ) (Fresh.soundF jyN) GOk.nil) 28 0)) jkY rfl rfl (by
 dsimp only[jnR,jnS]at hG ⊢
 obtain⟨hl,hv,hs⟩:=hG
 have hw:1≤v→IntKind.u16.wrap (v-1)=v-1:=fun h=>jpy (by omega)
 by_cases h0:v=0
 ·subst h0
  repeat' first|simp only[SA,seval,rdB,jk1,List.drop_replicate,List.set_set]|simp only[hw]|refine tT ?_|refine Cos.intro [] [] rfl ?_|refine And.intro ?_ ?_|exact tC|(refine tI ?_;intro hyp)|intro hyp0|omega
  ·exact (jnQ (Or.inl (Or.inl rfl))).symm
 ·have hw:=hw (by omega)
  repeat' first|simp only[SA,seval,rdB,jk1,List.drop_replicate,List.set_set]|simp only[hw]|refine tT ?_|refine Cos.intro [] [] rfl ?_|refine And.intro ?_ ?_|exact tC|(refine tI ?_;intro hyp)|intro hyp0|omega
  ·exact hs _ (jhX (by omega))
  ·exact (jnQ hyp).symm
  ·exact (jo4 hyp.1 hyp.2).symm)
theorem jwz:Fresh Tryz.prog E0 108 sp_rleads:=Alias.fresh jwy (fun x=>rfl)
theorem jtx {l:List ByteArray}{k:Nat}(h:jdg (l.getD k ETy.str.dflt)=true∧¬0≤jaS (l.take k) (l.getD k ETy.str.dflt)):jgW l k=true:=by
 show (jdg (l.getD k ETy.str.dflt) && !decide (0≤jaS (l.take k) (l.getD k ETy.str.dflt)))=true
 rw[h.1,decide_eq_false h.2];rfl
theorem jwA {l:List ByteArray}{k:Nat}(h:jdg (l.getD k ETy.str.dflt)=false∨0≤jaS (l.take k) (l.getD k ETy.str.dflt)):jgW l k=false:=by
 show (jdg (l.getD k ETy.str.dflt) && !decide (0≤jaS (l.take k) (l.getD k ETy.str.dflt)))=false
 rcases h with h|h
 ·rw[h,Bool.false_and]
 ·rw[decide_eq_true h];simp
theorem jdi {L:List CD}{k:Nat}(h:k<L.length):L[k]?=some (L.getD k default):=jbH h
theorem jsr {m:Nat}{L:List CD}{k:Nat}{t:Int}(hk:k<L.length) (h:jey m (L.take k)=some t) (hn:¬(t+1<(L.getD k default).link∨(m:Int)<(L.getD k default).link)):jey m (L.take (k+1))=some (max t (L.getD k default).link):=by
 rw[jaW (jdi hk),jcK,h]
 exact if_neg hn
theorem jBa {m:Nat}{L:List CD}{k:Nat}{t:Int}(hk:k<L.length) (h:jey m (L.take k)=some t) (hn:t+1<(L.getD k default).link∨(m:Int)<(L.getD k default).link):jey m L=none:=by
 rw[←List.take_append_drop (k+1) L]
 refine jti m _ _ ?_
 rw[jaW (jdi hk),jcK,h]
 exact if_pos hn
theorem jyO {L:List CD}{l:List ByteArray}(h:jey l.length L=none):jb8 L l=false:=by
 simp[jb8,h]
theorem jcU {L:List CD}{k:Nat}(h:k<L.length):L.getD k default∈L:=List.mem_of_getElem? (jbH h)
abbrev jnT (L:List CD) (l:List ByteArray):List CV:=[.vec .cell L,.vec .str l]
abbrev jnU (L:List CD) (l:List ByteArray):Prop×Res:=(L.length≤1000000∧l.length≤4611686018427387904∧(∀s∈l,SLen s)∧(∀c∈L,0≤c.link∧c.link<65536),.ret (.bool (jb8 L l)))
noncomputable def sp_lright:Spec:=spOf (α:=(List CD)×(List ByteArray)) (fun⟨L,l⟩=>jnT L l) fun⟨L,l⟩=>jnU L l
theorem jdT (L:List CD) (l:List ByteArray):sp_lright (jnT L l)=some (jnU L l):=jak _ injS (L,l)
theorem jwB:Alias Tryz.prog E0 57 sp_lright:=Alias.of fun⟨L,l⟩ hG=>TF.intro (V:=(VV [(99,conF [.any] sp_lmay),(100,conF [.sl .str,.any] sp_scontains)] (.cons (jaa jeA) (Fresh.soundF jqH) (.cons (jaa jb6) (Fresh.soundF jo1) GOk.nil)) 61 0)) jfW rfl rfl (by
 dsimp only[jnT,jnU]at hG ⊢
 obtain⟨hL,hl,hs,hc⟩:=hG
 repeat' first|simp only[SA,seval,rdB,jaR,jbp,List.drop_replicate,List.set_set]|refine tT ?_|refine Cos.intro [] [] rfl ?_|refine And.intro ?_ ?_|exact tC|(refine tI ?_;intro hyp)|intro hyp0|omega
 ·simp only[jb8,decide_eq_false (by omega:¬l.length≤16),Bool.false_and]
 refine T.loop (fun k:Nat=>⟨[(0,.vec .cell L),(1,.vec .str l),(14,.vec .str l),(15,.int .i64 l.length),(16,.int .i64 k)],[]⟩) (fun k=>k≤l.length∧∀j,j<k→jgW l j=true) (fun k=>l.length-k) 0 ⟨by omega,fun j hj=>by omega⟩ (Cos.intro [] [] rfl (by (simp only[SA,seval,rdB,jaR,jbp,List.drop_replicate,List.set_set]);first|done|(repeat' apply And.intro)<;>first|rfl|omega|simp)) (fun k ⟨hk,hall⟩=>?_)
 repeat' first|simp only[SA,seval,rdB,jaR,jbp,List.drop_replicate,List.set_set]|refine tT ?_|refine Cos.intro [] [] rfl ?_|refine And.intro ?_ ?_|exact tC|(refine tI ?_;intro hyp)|intro hyp0|omega
 ·exact hs _ (jhX (by omega))
 ·rw[List.length_take];omega
 ·rw[jb8,jbW (by omega:k<l.length) (jwA hyp),Bool.and_false,Bool.false_and]
 ·exact⟨k+1,⟨by omega,jew (jtx hyp) hall⟩,by omega,(Cos.intro [] [] rfl (by (simp only[SA,seval,rdB,jaR,jbp,List.drop_replicate,List.set_set]);first|done|(repeat' apply And.intro)<;>first|rfl|omega|simp))⟩
 have hall:=fun j (h:j<l.length)=>hall j (by omega)
 refine T.loop (fun q:Nat×Int=>⟨[(1,.vec .str l),(7,.int .i64 q.2),(32,.vec .cell L),(33,.int .i64 L.length),(34,.int .i64 q.1)],[]⟩) (fun q=>q.1≤L.length∧(0≤q.2∧q.2<65536)∧jey l.length (L.take q.1)=some q.2) (fun q=>L.length-q.1) (0,0) ⟨by omega,by omega,rfl⟩ (Cos.intro [] [] rfl (by (simp only[SA,seval,rdB,jaR,jbp,List.drop_replicate,List.set_set]);first|done|(repeat' apply And.intro)<;>first|rfl|omega|simp)) (fun⟨k,t⟩ ⟨hk,ht,htop⟩=>?_)
 dsimp only at hk ht htop ⊢
 have hck:k<L.length→0≤(L.getD k default).link∧(L.getD k default).link<65536:=fun h=>hc _ (jcU h)
 by_cases hkl:k<L.length
 ·have hck:=hck hkl
  repeat' first|simp only[SA,seval,rdB,jaR,jbp,List.drop_replicate,List.set_set]|refine tT ?_|refine Cos.intro [] [] rfl ?_|refine And.intro ?_ ?_|exact tC|(refine tI ?_;intro hyp)|intro hyp0|omega
  ·exact (jyO (jBa hkl htop (by omega))).symm
  ·exact⟨(k+1,(L.getD k default).link),⟨by omega,hck,by rw[jsr hkl htop (by omega)];congr 1;omega⟩,by simp only;omega,(Cos.intro [] [] rfl (by (simp only[SA,seval,rdB,jaR,jbp,List.drop_replicate,List.set_set]);first|done|(repeat' apply And.intro)<;>first|rfl|omega|simp))⟩
  ·exact⟨(k+1,t),⟨by omega,ht,by rw[jsr hkl htop (by omega)];congr 1;omega⟩,by simp only;omega,(Cos.intro [] [] rfl (by (simp only[SA,seval,rdB,jaR,jbp,List.drop_replicate,List.set_set]);first|done|(repeat' apply And.intro)<;>first|rfl|omega|simp))⟩
 ·have e:L.take k=L:=List.take_of_length_le (by omega)
  rw[e]at htop
  repeat' first|simp only[SA,seval,rdB,jaR,jbp,List.drop_replicate,List.set_set]|refine tT ?_|refine Cos.intro [] [] rfl ?_|refine And.intro ?_ ?_|exact tC|(refine tI ?_;intro hyp)|intro hyp0|omega
  ·have ha:(List.range l.length).all (jgW l)=true:=List.all_eq_true.2 fun j hj=>hall j (List.mem_range.1 hj)
   rw[jb8,htop,decide_eq_true (by omega:l.length≤16),ha,Bool.true_and,Bool.true_and]
   exact decide_eq_decide.2 ⟨fun e=>by rw[e],fun e=>Option.some.inj e⟩)
theorem jwC:Fresh Tryz.prog E0 57 sp_lright:=Alias.fresh jwB (fun x=>rfl)
theorem jty {l:List ByteArray}{L:List CD}{k:Nat}(h:k<L.length):jah l (L.take (k+1))=jcz l (jah l (L.take k)) (L.getD k default):=by
 rw[jaW (jdi h),jby]
theorem jjG:bs []=emptyS:=rfl
theorem jfY {α:Type}{M:List α}{k:Nat}{a d:α}(h:k<M.length):(M.set k a).getD k d=a:=by
 rw[List.getD_eq_getElem?_getD,List.getElem?_set_self h]
 rfl
theorem jBb {α:Type}{A:List α}{n k:Nat}{a d:α}(hA:A.length=k) (h:k<n):(A++List.replicate (n-k) d).set k a=A++[a]++List.replicate (n-(k+1)) d:=by
 rw[List.set_append_right _ _ (by omega),hA,Nat.sub_self,show n-k=n-(k+1)+1 by omega,List.replicate_succ,List.set_cons_zero]
 simp
abbrev jnV (L:List CD) (l:List ByteArray):List CV:=[.vec .cell L,.vec .str l]
abbrev jnW (L:List CD) (l:List ByteArray):Prop×Res:=(L.length≤60000∧l.length≤60000∧(∀s∈l,SLen s)∧(∀c∈L,0≤c.link∧c.link<65536),.ret (.tup [.vec .cell (L.map (jbo l (jah l L))),.vec .str (jah l L)]))
noncomputable def sp_rcanon:Spec:=spOf (α:=(List CD)×(List ByteArray)) (fun⟨L,l⟩=>jnV L l) fun⟨L,l⟩=>jnW L l
theorem jdU (L:List CD) (l:List ByteArray):sp_rcanon (jnV L l)=some (jnW L l):=jak _ injS (L,l)
theorem jwD:Fresh Tryz.prog E0 77 sp_rcanon:=Fresh.of fun⟨L,l⟩ hG=>TF.intro (V:=(VV [(108,conF [.sl .str,.any] sp_rleads),(109,conF [.sl .str,.any] sp_rplace)] (.cons (jaa jkY) (Fresh.soundF jwz) (.cons (jaa jkX) (Fresh.soundF jwu) GOk.nil)) 82 0)) jk0 rfl rfl (by
 dsimp only[jnV,jnW]at hG ⊢
 obtain⟨hL,hl,hs,hc⟩:=hG
 repeat' first|simp only[SA,seval,rdB,jbw,jbv,List.drop_replicate,List.set_set]|simp only[hw]|simp only[hw2]|refine tT ?_|refine Cos.intro [] [] rfl ?_|refine And.intro ?_ ?_|exact tC|(refine tI ?_;intro hyp)|intro hyp0|omega
 refine T.loop (fun k:Nat=>⟨[(0,.vec .cell L),(1,.vec .str l),(6,.slice 0 0 1 (jah l (L.take k)).length (jah l (L.take k)).length),(7,.int .i64 k)],[.seq .str (jah l (L.take k))]⟩) (fun k=>k≤L.length) (fun k=>L.length-k) 0 (by omega) (Cos.intro [0] [] rfl (by simp only[SA,seval,rdB,jbw,jbv,List.drop_replicate,List.set_set];simp[jah])) (fun k hk=>?_)
 have hlen:(jah l (L.take k)).length≤60000:=by
  have:=jix l (L.take k)
  rw[List.length_take]at this
  omega
 have hck:k<L.length→0≤(L.getD k default).link∧(L.getD k default).link<65536:=fun h=>hc _ (jcU h)
 by_cases hkl:k<L.length
 ·have hck:=hck hkl
  have hst:=jty (l:=l) hkl
  repeat' first|exact hs|simp only[SA,seval,rdB,jbw,jbv,List.drop_replicate,List.set_set]|simp only[hw]|simp only[hw2]|refine tT ?_|refine Cos.intro [] [] rfl ?_|refine And.intro ?_ ?_|exact tC|(refine tI ?_;intro hyp)|intro hyp0|omega
  ·refine⟨k+1,by omega,by omega,Cos.intro [2] [] rfl ?_⟩
   rw[hst,jcz,if_pos (by rw[←jjG];exact hyp)]
   simp only[SA,seval,rdB,jbw,jbv,List.drop_replicate,List.set_set]
   simp
  ·refine⟨k+1,by omega,by omega,Cos.intro [0] [] rfl ?_⟩
   rw[hst,jcz,if_neg (by rw[←jjG];exact fun q=>hyp.elim q.1 (fun w=>w q.2))]
   simp only[SA,seval,rdB,jbw,jbv,List.drop_replicate,List.set_set]
   simp
 ·have e:L.take k=L:=List.take_of_length_le (by omega)
  rw[e]
  repeat' first|simp only[SA,seval,rdB,jbw,jbv,List.drop_replicate,List.set_set]|simp only[hw]|simp only[hw2]|refine tT ?_|refine Cos.intro [] [] rfl ?_|refine And.intro ?_ ?_|exact tC|(refine tI ?_;intro hyp)|intro hyp0|omega
  rw[e]at hlen
  refine T.loop (fun k:Nat=>⟨[(0,.vec .cell L),(1,.vec .str l),(6,.slice 0 0 1 (jah l L).length (jah l L).length),(9,.slice 1 0 6 L.length L.length),(43,.int .i64 L.length),(44,.int .i64 k)],[.seq .str (jah l L),.seq .cell ((L.take k).map (jbo l (jah l L))++List.replicate (L.length-k) default)]⟩) (fun k=>k≤L.length) (fun k=>L.length-k) 0 (by omega) (Cos.intro [0,1] [] rfl (by simp only[SA,seval,rdB,jbw,jbv,List.drop_replicate,List.set_set];simp)) (fun k hk=>?_)
  have hml:((L.take k).map (jbo l (jah l L))).length=k:=by simp;omega
  by_cases hkl:k<L.length
  ·have hck:=hc _ (jcU hkl)
   have hn:=jvB l (jah l L) (L.getD k default).link
   have hw:∀a:CD,(((L.take k).map (jbo l (jah l L))++List.replicate (L.length-k) default).set k a).getD k default=a:=fun a=>jfY (by simp;omega)
   have hts:((L.take k).map (jbo l (jah l L))++List.replicate (L.length-k) default).set k (jbo l (jah l L) (L.getD k default))=(L.take (k+1)).map (jbo l (jah l L))++List.replicate (L.length-(k+1)) default:=by
    rw[jaW (jdi hkl),List.map_append,jBb (by simp;omega) hkl]
    rfl
   by_cases hb:ja2 l (L.getD k default).link=bs []
   ·have hcn:jbo l (jah l L) (L.getD k default)={ L.getD k default with link:=0 }:=by
     rw[jbo,jdo,if_pos (hb.trans jjG)]
     rfl
    rw[hcn]at hts
    repeat' first|exact hs|exact absurd hyp hb|exact absurd hb hyp|simp only[SA,seval,rdB,jbw,jbv,List.drop_replicate,List.set_set]|simp only[hw]|simp only[hw2]|refine tT ?_|refine Cos.intro [] [] rfl ?_|refine And.intro ?_ ?_|exact tC|(refine tI ?_;intro hyp)|intro hyp0|omega
    refine⟨k+1,by omega,by omega,Cos.intro [0,1] [] rfl ?_⟩
    rw[hts]
    simp only[SA,seval,rdB,jbw,jbv,List.drop_replicate,List.set_set]
    simp
   ·have hcn:jdo l (jah l L) (L.getD k default).link=jaS (jah l L) (ja2 l (L.getD k default).link)+1:=if_neg hb
    have hcc:jbo l (jah l L) (L.getD k default)={ L.getD k default with link:=jaS (jah l L) (ja2 l (L.getD k default).link)+1 }:=by
     rw[jbo,hcn]
     rfl
    have hw2:IntKind.u16.wrap (jaS (jah l L) (ja2 l (L.getD k default).link)+1)=jaS (jah l L) (ja2 l (L.getD k default).link)+1:=jpy (by omega)
    rw[hcc]at hts
    repeat' first|exact hs|exact absurd hyp hb|exact absurd hb hyp|simp only[SA,seval,rdB,jbw,jbv,List.drop_replicate,List.set_set]|simp only[hw]|simp only[hw2]|refine tT ?_|refine Cos.intro [] [] rfl ?_|refine And.intro ?_ ?_|exact tC|(refine tI ?_;intro hyp)|intro hyp0|omega
    refine⟨k+1,by omega,by omega,Cos.intro [0,1] [] rfl ?_⟩
    rw[hts]
    simp only[SA,seval,rdB,jbw,jbv,List.drop_replicate,List.set_set]
    simp
  ·have e:L.take k=L:=List.take_of_length_le (by omega)
   rw[e]
   have hlm:(L.map (jbo l (jah l L))).length=L.length:=by simp
   rw[show L.length-k=0 by omega,List.replicate_zero,List.append_nil]
   repeat' first|simp only[SA,seval,rdB,jbw,jbv,List.drop_replicate,List.set_set]|simp only[hw]|simp only[hw2]|refine tT ?_|refine Cos.intro [1,0] [] rfl ?_|refine And.intro ?_ ?_|exact tC|(refine tI ?_;intro hyp)|intro hyp0|omega)
theorem jtz {l:List ByteArray}{L:List CD}{k:Nat}(h:k<L.length):(L.map (jbo l (jah l L))).getD k default=jbo l (jah l L) (L.getD k default):=by
 rw[List.getD_eq_getElem?_getD,List.getElem?_map,jdi h]
 rfl
theorem jfZ {L:List CD}{k:Nat}(h:k<L.length):cAt L k=L.getD k default:=jgV (jdi h)
abbrev jk3 (L:List CD) (l:List ByteArray):List CV:=[.vec .cell L,.vec .str l]
abbrev jk4 (L:List CD) (l:List ByteArray):Prop×Res:=(L.length≤60000∧l.length≤60000∧(∀s∈l,SLen s)∧(∀c∈L,0≤c.link∧c.link<65536),.ret (.bool (jhh L l)))
noncomputable def sp_rlright:Spec:=spOf (α:=(List CD)×(List ByteArray)) (fun⟨L,l⟩=>jk3 L l) fun⟨L,l⟩=>jk4 L l
theorem jdj (L:List CD) (l:List ByteArray):sp_rlright (jk3 L l)=some (jk4 L l):=jak _ injS (L,l)
theorem jtA:Alias Tryz.prog E0 43 sp_rlright:=Alias.of fun⟨L,l⟩ hG=>TF.intro (V:=(VV [(77,conF [.sl .cell,.sl .str] sp_rcanon),(40,conF [.sl .str,.sl .str] sp_rssame)] (.cons (jaa jk0) (Fresh.soundF jwD) (.cons (jaa jiF) (Fresh.soundF jo3) GOk.nil)) 39 0)) jkZ rfl rfl (by
 dsimp only[jk3,jk4]at hG ⊢
 obtain⟨hL,hl,hs,hc⟩:=hG
 have hm:=jix l L
 repeat' first|exact hs|exact hc|simp only[SA,seval,rdB,jdU,jc3,List.drop_replicate,List.set_set]|simp only[hw]|simp only[hw2]|refine tT ?_|refine Cos.intro [] [] rfl ?_|refine And.intro ?_ ?_|exact tC|(refine tI ?_;intro hyp)|intro hyp0|omega
 ·simp only[jhh,decide_eq_false (by omega:¬l.length≤16),Bool.false_and]
 have hmm:(jah l L).length≤4611686018427387904:=by omega
 refine T.loop (fun k:Nat=>⟨[(0,.vec .cell L),(1,.vec .str l),(5,.vec .cell (L.map (jbo l (jah l L)))),(6,.vec .str (jah l L)),(18,.int .i64 L.length),(19,.int .i64 k)],[]⟩) (fun k=>k≤L.length∧∀j,j<k→decide (jdo l (jah l L) (cAt L j).link=(cAt L j).link)=true) (fun k=>L.length-k) 0 ⟨by omega,fun j hj=>by omega⟩ (Cos.intro [] [] rfl (by (simp only[SA,seval,rdB,jdU,jc3,List.drop_replicate,List.set_set]);first|done|(repeat' apply And.intro)<;>first|rfl|omega|simp)) (fun k ⟨hk,hall⟩=>?_)
 by_cases hkl:k<L.length
 ·have hw:=jtz (l:=l) hkl
  have hw2:(jbo l (jah l L) (L.getD k default)).link=jdo l (jah l L) (L.getD k default).link:=rfl
  have hcg:=jfZ hkl
  have hlm:(L.map (jbo l (jah l L))).length=L.length:=by simp
  have hkm:k<(L.map (jbo l (jah l L))).length:=by omega
  repeat' first|simp only[SA,seval,rdB,jdU,jc3,List.drop_replicate,List.set_set]|simp only[hw]|simp only[hw2]|refine tT ?_|refine Cos.intro [] [] rfl ?_|refine And.intro ?_ ?_|exact tC|(refine tI ?_;intro hyp)|intro hyp0|omega
  ·rw[jhh,jbW hkl (by rw[hcg];exact decide_eq_false hyp),Bool.and_false,Bool.false_and]
  ·exact⟨k+1,⟨by omega,jew (by rw[hcg];exact decide_eq_true hyp) hall⟩,by omega,(Cos.intro [] [] rfl (by (simp only[SA,seval,rdB,jdU,jc3,List.drop_replicate,List.set_set]);first|done|(repeat' apply And.intro)<;>first|rfl|omega|simp))⟩
 ·repeat' first|simp only[SA,seval,rdB,jdU,jc3,List.drop_replicate,List.set_set]|simp only[hw]|simp only[hw2]|refine tT ?_|refine Cos.intro [] [] rfl ?_|refine And.intro ?_ ?_|exact tC|(refine tI ?_;intro hyp)|intro hyp0|omega
  rw[jhh,jdf (n:=L.length) (k:=k) (by omega) hall,Bool.and_true,decide_eq_true (by omega:l.length≤16),Bool.true_and])
theorem jtB:Fresh Tryz.prog E0 43 sp_rlright:=Alias.fresh jtA (fun x=>rfl)
end
end Go.Proofs.YtcfkfgkndncanaaGreatDoor
