/- Texts of this claim, merged by a program of this claim: FLinks. -/
import Derived.Test.YtienkkicehmchaaGreatDoorDa16
import Derived.Test.YtienkkicehmchaaGreatDoorDa17
import Derived.Test.YtienkkicehmchaaGreatDoorDa7
namespace Go.Proofs.YtienkkicehmchaaGreatDoor
set_option linter.unusedVariables false
set_option linter.unusedSimpArgs false
section
open Go.RowKit
set_option maxRecDepth 100000
set_option maxHeartbeats 4000000
theorem jhX (s:ByteArray) (i:Nat):(jaf s).getD i 0=((s.data.toList.getD i 0).toNat:Int):=by
 simp only[jaf,List.getD_eq_getElem?_getD,List.getElem?_map]
 cases s.data.toList[i]?<;>rfl
def chrB (s:ByteArray) (i:Nat):Bool:=decide (33≤(s.data.toList.getD i 0).toNat)&&decide ((s.data.toList.getD i 0).toNat≤126)
theorem jdl (s:ByteArray):jcp s=(decide (1≤s.size)&&decide (s.size≤64)&&(List.range s.size).all (chrB s)):=rfl
abbrev SLen (s:ByteArray):Prop:=s.size≤9223372036854775807
abbrev joO (s:ByteArray):List CV:=[.str s]
abbrev joP (s:ByteArray):Prop×Res:=(SLen s,.ret (.bool (jcp s)))
noncomputable def sp_lmay:Spec:=spOf (α:=ByteArray) (fun s=>joO s) fun s=>joP s
theorem jaW (s:ByteArray):sp_lmay (joO s)=some (joP s):=jad _ injS s
theorem jsN:Alias Tryz.prog E0 128 sp_lmay:=Alias.of fun s hG=>TF.intro (V:=(VV [] GOk.nil 28 0)) jd7 rfl rfl (by
 dsimp only[joO,joP]at hG ⊢
 repeat' first|simp only[SA,seval,rdB,List.drop_replicate,List.set_set]|simp only[hw]|refine tT ?_|refine And.intro ?_ ?_|exact tC|(refine tI ?_;intro hyp)|intro hyp0|omega
 refine T.loop (fun k:Nat=>⟨[(0,.str s),(5,.int .i64 s.size),(6,.int .i64 k)],[]⟩) (fun k=>k≤s.size∧∀j,j<k→chrB s j=true) (fun k=>s.size-k) 0 ⟨by omega,fun j hj=>by omega⟩ (Cos.intro [] [] rfl (by (simp only[SA,seval,rdB,List.drop_replicate,List.set_set]);first|done|(repeat' apply And.intro)<;>first|rfl|omega|simp)) (fun k ⟨hk,hall⟩=>?_)
 have hw:=jhX s k
 repeat' first|simp only[SA,seval,rdB,List.drop_replicate,List.set_set]|simp only[hw]|refine tT ?_|refine Cos.intro [] [] rfl ?_|refine And.intro ?_ ?_|exact tC|(refine tI ?_;intro hyp)|intro hyp0|omega
 ·rw[jdl,jaD (by omega:k<s.size) (by simp only[chrB,HB,ne_eq,reduceCtorEq];omega),Bool.and_false]
 ·exact⟨k+1,⟨by omega,jb6 (by simp only[chrB,HB,ne_eq,reduceCtorEq];omega) hall⟩,by omega,(Cos.intro [] [] rfl (by (simp only[SA,seval,rdB,List.drop_replicate,List.set_set]);first|done|(repeat' apply And.intro)<;>first|rfl|omega|simp))⟩
 ·rw[jdl,jbh (n:=s.size) (k:=k) (by omega) hall,Bool.and_true]
  rw[←Bool.decide_and,←Bool.decide_and]
  exact decide_eq_decide.2 (by omega))
theorem jsO:Fresh Tryz.prog E0 128 sp_lmay:=Alias.fresh jsN (fun x=>rfl)
abbrev jk1 (s:ByteArray):List CV:=[.str s]
abbrev jk2 (s:ByteArray):Prop×Res:=(SLen s,.ret (.bool (jcp s)))
noncomputable def sp_rlmay:Spec:=spOf (α:=ByteArray) (fun s=>jk1 s) fun s=>jk2 s
theorem jgZ (s:ByteArray):sp_rlmay (jk1 s)=some (jk2 s):=jad _ injS s
theorem jqV:Alias Tryz.prog E0 119 sp_rlmay:=Alias.of fun s hG=>TF.intro (V:=(VV [] GOk.nil 28 0)) jjX rfl rfl (by
 dsimp only[jk1,jk2]at hG ⊢
 repeat' first|simp only[SA,seval,rdB,List.drop_replicate,List.set_set]|simp only[hw]|refine tT ?_|refine Cos.intro [] [] rfl ?_|refine And.intro ?_ ?_|exact tC|(refine tI ?_;intro hyp)|intro hyp0|omega
 ·rw[jdl,←Bool.decide_and,decide_eq_false (by omega),Bool.false_and]
 refine T.loop (fun k:Nat=>⟨[(0,.str s),(3,.int .i64 k)],[]⟩) (fun k=>k≤s.size∧∀j,j<k→chrB s j=true) (fun k=>s.size-k) 0 ⟨by omega,fun j hj=>by omega⟩ (Cos.intro [] [] rfl (by (simp only[SA,seval,rdB,List.drop_replicate,List.set_set]);first|done|(repeat' apply And.intro)<;>first|rfl|omega|simp)) (fun k ⟨hk,hall⟩=>?_)
 have hw:=jhX s k
 repeat' first|simp only[SA,seval,rdB,List.drop_replicate,List.set_set]|simp only[hw]|refine tT ?_|refine Cos.intro [] [] rfl ?_|refine And.intro ?_ ?_|exact tC|(refine tI ?_;intro hyp)|intro hyp0|omega
 ·rw[jdl,jaD (by omega:k<s.size) (by simp only[chrB,HB,ne_eq,reduceCtorEq];omega),Bool.and_false]
 ·exact⟨k+1,⟨by omega,jb6 (by simp only[chrB,HB,ne_eq,reduceCtorEq];omega) hall⟩,by omega,(Cos.intro [] [] rfl (by (simp only[SA,seval,rdB,List.drop_replicate,List.set_set]);first|done|(repeat' apply And.intro)<;>first|rfl|omega|simp))⟩
 ·rw[jdl,jbh (n:=s.size) (k:=k) (by omega) hall,Bool.and_true,←Bool.decide_and,decide_eq_true (by omega)])
theorem jqW:Fresh Tryz.prog E0 119 sp_rlmay:=Alias.fresh jqV (fun x=>rfl)
abbrev jiG (l:List ByteArray) (s:ByteArray):List CV:=[.vec .str l,.str s]
abbrev jiH (l:List ByteArray) (s:ByteArray):Prop×Res:=(l.length≤4611686018427387904,.ret (.int .i64 (jan l s)))
noncomputable def sp_sindex:Spec:=spOf (α:=(List ByteArray)×ByteArray) (fun⟨l,s⟩=>jiG l s) fun⟨l,s⟩=>jiH l s
theorem jjY (l:List ByteArray) (s:ByteArray):sp_sindex (jiG l s)=some (jiH l s):=jad _ injS (l,s)
theorem joQ:Alias Tryz.prog E0 157 sp_sindex:=Alias.of fun⟨l,s⟩ hG=>TF.intro (V:=(VV [] GOk.nil 19 0)) jaS rfl rfl (by
 dsimp only[jiG,jiH]at hG ⊢
 repeat' first|simp only[SA,seval,rdB,List.drop_replicate,List.set_set]|refine tT ?_|refine And.intro ?_ ?_|exact tC|(refine tI ?_;intro hyp)|intro hyp0|omega
 refine T.loop (fun k:Nat=>⟨[(0,.vec .str l),(1,.str s),(7,.int .i64 l.length),(8,.int .i64 k)],[]⟩) (fun k=>k≤l.length∧∀(j:Nat) (x:ByteArray),j<k→l[j]?=some x→jeA x s=false) (fun k=>l.length-k) 0 ⟨by omega,fun j x hj=>by omega⟩ (Cos.intro [] [] rfl (by (simp only[SA,seval,rdB,List.drop_replicate,List.set_set]);first|done|(repeat' apply And.intro)<;>first|rfl|omega|simp)) (fun k ⟨hk,hall⟩=>?_)
 repeat' first|simp only[SA,seval,rdB,List.drop_replicate,List.set_set]|refine tT ?_|refine Cos.intro [] [] rfl ?_|refine And.intro ?_ ?_|exact tC|(refine tI ?_;intro hyp)|intro hyp0|omega
 ·exact (jdh l s k hall _ (jbn (d:=ETy.str.dflt) (by omega)) (jb8.2 (hyp.symm))).symm
 ·refine⟨k+1,⟨by omega,fun j x hj hx=>?_⟩,by omega,(Cos.intro [] [] rfl (by (simp only[SA,seval,rdB,List.drop_replicate,List.set_set]);first|done|(repeat' apply And.intro)<;>first|rfl|omega|simp))⟩
  by_cases e:j=k
  ·subst e
   rw[jbn (d:=ETy.str.dflt) (by omega)]at hx
   cases hx
   exact jcU.2 (fun q=>hyp (q.symm))
  ·exact hall j x (by omega) hx
 ·exact (jgQ l s (fun j x hx=>hall j x (by have:=(List.getElem?_eq_some_iff.1 hx).1;omega) hx)).symm)
theorem joR:Fresh Tryz.prog E0 157 sp_sindex:=Alias.fresh joQ (fun x=>rfl)
abbrev jiI (l:List ByteArray) (s:ByteArray):List CV:=[.vec .str l,.str s]
abbrev jiJ (l:List ByteArray) (s:ByteArray):Prop×Res:=(l.length≤4611686018427387904,.ret (.int .i64 (jan l s)))
noncomputable def sp_rplace:Spec:=spOf (α:=(List ByteArray)×ByteArray) (fun⟨l,s⟩=>jiI l s) fun⟨l,s⟩=>jiJ l s
theorem jaq (l:List ByteArray) (s:ByteArray):sp_rplace (jiI l s)=some (jiJ l s):=jad _ injS (l,s)
theorem joS:Alias Tryz.prog E0 122 sp_rplace:=Alias.of fun⟨l,s⟩ hG=>TF.intro (V:=(VV [] GOk.nil 19 0)) jgV rfl rfl (by
 dsimp only[jiI,jiJ]at hG ⊢
 repeat' first|simp only[SA,seval,rdB,List.drop_replicate,List.set_set]|refine tT ?_|refine And.intro ?_ ?_|exact tC|(refine tI ?_;intro hyp)|intro hyp0|omega
 refine T.loop (fun k:Nat=>⟨[(0,.vec .str l),(1,.str s),(5,.int .i64 k)],[]⟩) (fun k=>k≤l.length∧∀(j:Nat) (x:ByteArray),j<k→l[j]?=some x→jeA x s=false) (fun k=>l.length-k) 0 ⟨by omega,fun j x hj=>by omega⟩ (Cos.intro [] [] rfl (by (simp only[SA,seval,rdB,List.drop_replicate,List.set_set]);first|done|(repeat' apply And.intro)<;>first|rfl|omega|simp)) (fun k ⟨hk,hall⟩=>?_)
 repeat' first|simp only[SA,seval,rdB,List.drop_replicate,List.set_set]|refine tT ?_|refine Cos.intro [] [] rfl ?_|refine And.intro ?_ ?_|exact tC|(refine tI ?_;intro hyp)|intro hyp0|omega
 ·exact (jdh l s k hall _ (jbn (d:=ETy.str.dflt) (by omega)) (jb8.2 (hyp))).symm
 ·refine⟨k+1,⟨by omega,fun j x hj hx=>?_⟩,by omega,(Cos.intro [] [] rfl (by (simp only[SA,seval,rdB,List.drop_replicate,List.set_set]);first|done|(repeat' apply And.intro)<;>first|rfl|omega|simp))⟩
  by_cases e:j=k
  ·subst e
   rw[jbn (d:=ETy.str.dflt) (by omega)]at hx
   cases hx
   exact jcU.2 (fun q=>hyp (q))
  ·exact hall j x (by omega) hx
 ·exact (jgQ l s (fun j x hx=>hall j x (by have:=(List.getElem?_eq_some_iff.1 hx).1;omega) hx)).symm)
theorem joT:Fresh Tryz.prog E0 122 sp_rplace:=Alias.fresh joS (fun x=>rfl)
abbrev jd8 (l:List ByteArray) (s:ByteArray):List CV:=[.vec .str l,.str s]
abbrev jd9 (l:List ByteArray) (s:ByteArray):Prop×Res:=(l.length≤4611686018427387904,.ret (.bool (decide (0≤jan l s))))
noncomputable def sp_scontains:Spec:=spOf (α:=(List ByteArray)×ByteArray) (fun⟨l,s⟩=>jd8 l s) fun⟨l,s⟩=>jd9 l s
theorem jao (l:List ByteArray) (s:ByteArray):sp_scontains (jd8 l s)=some (jd9 l s):=jad _ injS (l,s)
theorem jjZ:Alias Tryz.prog E0 129 sp_scontains:=Alias.of fun⟨l,s⟩ hG=>TF.intro (V:=(VV [(157,conF [.sl .str,.any] sp_sindex)] (.cons (jaa jaS) (Fresh.soundF joR) GOk.nil) 9 0)) jaG rfl rfl (by
 dsimp only[jd8,jd9]at hG ⊢
 repeat' first|simp only[SA,seval,rdB,jjY,List.drop_replicate,List.set_set]|refine tT ?_|refine Cos.intro [] [] rfl ?_|refine And.intro ?_ ?_|exact tC|(refine tI ?_;intro hyp)|intro hyp0|omega)
theorem jj0:Fresh Tryz.prog E0 129 sp_scontains:=Alias.fresh jjZ (fun x=>rfl)
abbrev jiK (L:List ByteArray):List CV:=[.vec .str L]
abbrev jiL (L:List ByteArray):Prop×Res:=(L.length≤1000000,.ret (.vec .str L))
noncomputable def sp_sclone:Spec:=spOf (α:=(List ByteArray)) (fun L=>jiK L) fun L=>jiL L
theorem jbz (L:List ByteArray):sp_sclone (jiK L)=some (jiL L):=jad _ injS L
theorem joU:Fresh Tryz.prog E0 43 sp_sclone:=Fresh.of fun L hG=>TF.intro (V:=(VV [] GOk.nil 8 0)) jby rfl rfl (by
 dsimp only[jiK,jiL]at hG ⊢
 repeat' first|simp only[SA,seval,rdB,List.drop_replicate,List.set_set]|refine tT ?_|refine Cos.row (t:=.str) rfl ?_ rfl (Nat.le_refl _)|exact Cos.nilRow (t:=.str) (by cases L<;>simp_all)|refine And.intro ?_ ?_|exact tC|(refine tI ?_;intro hyp)|intro hyp0|omega)
abbrev jiM (L:List ByteArray) (M:List ByteArray):List CV:=[.vec .str L,.vec .str M]
abbrev jiN (L:List ByteArray) (M:List ByteArray):Prop×Res:=(L.length≤4611686018427387904∧M.length≤4611686018427387904,.ret (.bool (decide (L=M))))
noncomputable def sp_rssame:Spec:=spOf (α:=(List ByteArray)×(List ByteArray)) (fun⟨L,M⟩=>jiM L M) fun⟨L,M⟩=>jiN L M
theorem jbA (L:List ByteArray) (M:List ByteArray):sp_rssame (jiM L M)=some (jiN L M):=jad _ injS (L,M)
theorem joV:Alias Tryz.prog E0 34 sp_rssame:=Alias.of fun⟨L,M⟩ hG=>TF.intro (V:=(VV [] GOk.nil 26 0)) jhW rfl rfl (by
 dsimp only[jiM,jiN]at hG ⊢
 repeat' first|simp only[SA,seval,rdB,List.drop_replicate,List.set_set]|refine tT ?_|refine Cos.intro [] [] rfl ?_|refine And.intro ?_ ?_|exact tC|(refine tI ?_;intro hyp)|intro hyp0|omega
 ·exact (decide_eq_false fun e=>by subst e;omega).symm
 ·refine T.loop (fun k:Nat=>⟨[(0,.vec .str L),(1,.vec .str M),(12,.int .i64 L.length),(13,.int .i64 k)],[]⟩) (fun k=>k≤L.length∧∀j,j<k→L[j]?=M[j]?) (fun k=>L.length-k) 0 ⟨by omega,fun j hj=>by omega⟩ (Cos.intro [] [] rfl (by (simp only[SA,seval,rdB,List.drop_replicate,List.set_set]);first|done|(repeat' apply And.intro)<;>first|rfl|omega|simp)) (fun k ⟨hk,hall⟩=>?_)
  repeat' first|simp only[SA,seval,rdB,List.drop_replicate,List.set_set]|refine tT ?_|refine Cos.intro [] [] rfl ?_|exact⟨k+1,⟨by omega,jjL (by omega) (by omega) hyp hall⟩,by omega,(Cos.intro [] [] rfl (by (simp only[SA,seval,rdB,List.drop_replicate,List.set_set]);first|done|(repeat' apply And.intro)<;>first|rfl|omega|simp))⟩|refine And.intro ?_ ?_|exact tC|(refine tI ?_;intro hyp)|intro hyp0|omega
  ·exact (decide_eq_false fun e=>by subst e;exact hyp rfl).symm
  ·exact (decide_eq_true (jlW (by omega) (by omega) hall)).symm)
theorem joW:Fresh Tryz.prog E0 34 sp_rssame:=Alias.fresh joV (fun x=>rfl)
theorem jj1 {l:List ByteArray}{i:Nat}(h:i<l.length):l.getD i ETy.str.dflt∈l:=List.mem_of_getElem? (jbn h)
theorem joX {l:List ByteArray}{v:Int}(h:¬v=0∧¬(l.length:Int)<v) (hb:jcp (l.getD (v-1).toNat ETy.str.dflt)=true):jap l v=l.getD (v-1).toNat ETy.str.dflt:=by
 unfold jap
 rw[if_neg (by omega),show sAt l (v-1).toNat=l.getD (v-1).toNat ETy.str.dflt from rfl,if_pos hb]
theorem jl6 {l:List ByteArray}{v:Int}(h:(v=0∨(l.length:Int)<v)∨jcp (l.getD (v-1).toNat ETy.str.dflt)=false):jap l v=bs []:=by
 unfold jap
 by_cases e:v=0∨(l.length:Int)<v
 ·rw[if_pos e];rfl
 ·rw[if_neg e,show sAt l (v-1).toNat=l.getD (v-1).toNat ETy.str.dflt from rfl,if_neg (by rw[h.resolve_left e];decide)];rfl
abbrev jiO (l:List ByteArray) (v:Int):List CV:=[.vec .str l,.int .u16 v]
abbrev jiP (l:List ByteArray) (v:Int):Prop×Res:=(l.length≤1000000∧(0≤v∧v<65536)∧(∀s∈l,SLen s),.ret (.str (jap l v)))
noncomputable def sp_rleads:Spec:=spOf (α:=(List ByteArray)×Int) (fun⟨l,v⟩=>jiO l v) fun⟨l,v⟩=>jiP l v
theorem jar (l:List ByteArray) (v:Int):sp_rleads (jiO l v)=some (jiP l v):=jad _ injS (l,v)
theorem joY:Alias Tryz.prog E0 121 sp_rleads:=Alias.of fun⟨l,v⟩ hG=>TF.intro (V:=(VV [(119,conF [.any] sp_rlmay)] (.cons (jaa jjX) (Fresh.soundF jqW) GOk.nil) 28 0)) jgW rfl rfl (by
 dsimp only[jiO,jiP]at hG ⊢
 obtain⟨hl,hv,hs⟩:=hG
 have hw:1≤v→IntKind.u16.wrap (v-1)=v-1:=fun h=>jtQ (by omega)
 by_cases h0:v=0
 ·subst h0
  repeat' first|simp only[SA,seval,rdB,jgZ,List.drop_replicate,List.set_set]|simp only[hw]|refine tT ?_|refine Cos.intro [] [] rfl ?_|refine And.intro ?_ ?_|exact tC|(refine tI ?_;intro hyp)|intro hyp0|omega
  ·exact (jl6 (Or.inl (Or.inl rfl))).symm
 ·have hw:=hw (by omega)
  repeat' first|simp only[SA,seval,rdB,jgZ,List.drop_replicate,List.set_set]|simp only[hw]|refine tT ?_|refine Cos.intro [] [] rfl ?_|refine And.intro ?_ ?_|exact tC|(refine tI ?_;intro hyp)|intro hyp0|omega
  ·exact hs _ (jj1 (by omega))
  ·exact (jl6 hyp).symm
  ·exact (joX hyp.1 hyp.2).symm)
theorem joZ:Fresh Tryz.prog E0 121 sp_rleads:=Alias.fresh joY (fun x=>rfl)
theorem jmZ {l:List ByteArray}{k:Nat}(h:jcp (l.getD k ETy.str.dflt)=true∧¬0≤jan (l.take k) (l.getD k ETy.str.dflt)):jeC l k=true:=by
 show (jcp (l.getD k ETy.str.dflt) && !decide (0≤jan (l.take k) (l.getD k ETy.str.dflt)))=true
 rw[h.1,decide_eq_false h.2];rfl
theorem jo0 {l:List ByteArray}{k:Nat}(h:jcp (l.getD k ETy.str.dflt)=false∨0≤jan (l.take k) (l.getD k ETy.str.dflt)):jeC l k=false:=by
 show (jcp (l.getD k ETy.str.dflt) && !decide (0≤jan (l.take k) (l.getD k ETy.str.dflt)))=false
 rcases h with h|h
 ·rw[h,Bool.false_and]
 ·rw[decide_eq_true h];simp
theorem jdm {L:List CD}{k:Nat}(h:k<L.length):L[k]?=some (L.getD k default):=jbn h
theorem jl7 {m:Nat}{L:List CD}{k:Nat}{t:Int}(hk:k<L.length) (h:jbR m (L.take k)=some t) (hn:¬(t+1<(L.getD k default).link∨(m:Int)<(L.getD k default).link)):jbR m (L.take (k+1))=some (max t (L.getD k default).link):=by
 rw[jaK (jdm hk),jbU,h]
 exact if_neg hn
theorem jsP {m:Nat}{L:List CD}{k:Nat}{t:Int}(hk:k<L.length) (h:jbR m (L.take k)=some t) (hn:t+1<(L.getD k default).link∨(m:Int)<(L.getD k default).link):jbR m L=none:=by
 rw[←List.take_append_drop (k+1) L]
 refine jmQ m _ _ ?_
 rw[jaK (jdm hk),jbU,h]
 exact if_pos hn
theorem jqX {L:List CD}{l:List ByteArray}(h:jbR l.length L=none):jci L l=false:=by
 simp[jci,h]
theorem jeE {L:List CD}{k:Nat}(h:k<L.length):L.getD k default∈L:=List.mem_of_getElem? (jbn h)
abbrev jiQ (L:List CD) (l:List ByteArray):List CV:=[.vec .cell L,.vec .str l]
abbrev jiR (L:List CD) (l:List ByteArray):Prop×Res:=(L.length≤1000000∧l.length≤4611686018427387904∧(∀s∈l,SLen s)∧(∀c∈L,0≤c.link∧c.link<65536),.ret (.bool (jci L l)))
noncomputable def sp_lright:Spec:=spOf (α:=(List CD)×(List ByteArray)) (fun⟨L,l⟩=>jiQ L l) fun⟨L,l⟩=>jiR L l
theorem jbB (L:List CD) (l:List ByteArray):sp_lright (jiQ L l)=some (jiR L l):=jad _ injS (L,l)
theorem jo1:Alias Tryz.prog E0 93 sp_lright:=Alias.of fun⟨L,l⟩ hG=>TF.intro (V:=(VV [(128,conF [.any] sp_lmay),(129,conF [.sl .str,.any] sp_scontains)] (.cons (jaa jd7) (Fresh.soundF jsO) (.cons (jaa jaG) (Fresh.soundF jj0) GOk.nil)) 61 0)) jcW rfl rfl (by
 dsimp only[jiQ,jiR]at hG ⊢
 obtain⟨hL,hl,hs,hc⟩:=hG
 repeat' first|simp only[SA,seval,rdB,jaW,jao,List.drop_replicate,List.set_set]|refine tT ?_|refine Cos.intro [] [] rfl ?_|refine And.intro ?_ ?_|exact tC|(refine tI ?_;intro hyp)|intro hyp0|omega
 ·simp only[jci,decide_eq_false (by omega:¬l.length≤16),Bool.false_and]
 refine T.loop (fun k:Nat=>⟨[(0,.vec .cell L),(1,.vec .str l),(14,.vec .str l),(15,.int .i64 l.length),(16,.int .i64 k)],[]⟩) (fun k=>k≤l.length∧∀j,j<k→jeC l j=true) (fun k=>l.length-k) 0 ⟨by omega,fun j hj=>by omega⟩ (Cos.intro [] [] rfl (by (simp only[SA,seval,rdB,jaW,jao,List.drop_replicate,List.set_set]);first|done|(repeat' apply And.intro)<;>first|rfl|omega|simp)) (fun k ⟨hk,hall⟩=>?_)
 repeat' first|simp only[SA,seval,rdB,jaW,jao,List.drop_replicate,List.set_set]|refine tT ?_|refine Cos.intro [] [] rfl ?_|refine And.intro ?_ ?_|exact tC|(refine tI ?_;intro hyp)|intro hyp0|omega
 ·exact hs _ (jj1 (by omega))
 ·rw[List.length_take];omega
 ·rw[jci,jaD (by omega:k<l.length) (jo0 hyp),Bool.and_false,Bool.false_and]
 ·exact⟨k+1,⟨by omega,jb6 (jmZ hyp) hall⟩,by omega,(Cos.intro [] [] rfl (by (simp only[SA,seval,rdB,jaW,jao,List.drop_replicate,List.set_set]);first|done|(repeat' apply And.intro)<;>first|rfl|omega|simp))⟩
 have hall:=fun j (h:j<l.length)=>hall j (by omega)
 refine T.loop (fun q:Nat×Int=>⟨[(1,.vec .str l),(7,.int .i64 q.2),(32,.vec .cell L),(33,.int .i64 L.length),(34,.int .i64 q.1)],[]⟩) (fun q=>q.1≤L.length∧(0≤q.2∧q.2<65536)∧jbR l.length (L.take q.1)=some q.2) (fun q=>L.length-q.1) (0,0) ⟨by omega,by omega,rfl⟩ (Cos.intro [] [] rfl (by (simp only[SA,seval,rdB,jaW,jao,List.drop_replicate,List.set_set]);first|done|(repeat' apply And.intro)<;>first|rfl|omega|simp)) (fun⟨k,t⟩ ⟨hk,ht,htop⟩=>?_)
 dsimp only at hk ht htop ⊢
 have hck:k<L.length→0≤(L.getD k default).link∧(L.getD k default).link<65536:=fun h=>hc _ (jeE h)
 by_cases hkl:k<L.length
 ·have hck:=hck hkl
  repeat' first|simp only[SA,seval,rdB,jaW,jao,List.drop_replicate,List.set_set]|refine tT ?_|refine Cos.intro [] [] rfl ?_|refine And.intro ?_ ?_|exact tC|(refine tI ?_;intro hyp)|intro hyp0|omega
  ·exact (jqX (jsP hkl htop (by omega))).symm
  ·exact⟨(k+1,(L.getD k default).link),⟨by omega,hck,by rw[jl7 hkl htop (by omega)];congr 1;omega⟩,by simp only;omega,(Cos.intro [] [] rfl (by (simp only[SA,seval,rdB,jaW,jao,List.drop_replicate,List.set_set]);first|done|(repeat' apply And.intro)<;>first|rfl|omega|simp))⟩
  ·exact⟨(k+1,t),⟨by omega,ht,by rw[jl7 hkl htop (by omega)];congr 1;omega⟩,by simp only;omega,(Cos.intro [] [] rfl (by (simp only[SA,seval,rdB,jaW,jao,List.drop_replicate,List.set_set]);first|done|(repeat' apply And.intro)<;>first|rfl|omega|simp))⟩
 ·have e:L.take k=L:=List.take_of_length_le (by omega)
  rw[e]at htop
  repeat' first|simp only[SA,seval,rdB,jaW,jao,List.drop_replicate,List.set_set]|refine tT ?_|refine Cos.intro [] [] rfl ?_|refine And.intro ?_ ?_|exact tC|(refine tI ?_;intro hyp)|intro hyp0|omega
  ·have ha:(List.range l.length).all (jeC l)=true:=List.all_eq_true.2 fun j hj=>hall j (List.mem_range.1 hj)
   rw[jci,htop,decide_eq_true (by omega:l.length≤16),ha,Bool.true_and,Bool.true_and]
   exact decide_eq_decide.2 ⟨fun e=>by rw[e],fun e=>Option.some.inj e⟩)
theorem jo2:Fresh Tryz.prog E0 93 sp_lright:=Alias.fresh jo1 (fun x=>rfl)
theorem jm0 {l:List ByteArray}{L:List CD}{k:Nat}(h:k<L.length):jah l (L.take (k+1))=jbx l (jah l (L.take k)) (L.getD k default):=by
 rw[jaK (jdm h),jaR]
theorem jiS:bs []=emptyS:=rfl
theorem jiT {α:Type}{M:List α}{k:Nat}{a d:α}(h:k<M.length):(M.set k a).getD k d=a:=by
 rw[List.getD_eq_getElem?_getD,List.getElem?_set_self h]
 rfl
theorem jup {α:Type}{A:List α}{n k:Nat}{a d:α}(hA:A.length=k) (h:k<n):(A++List.replicate (n-k) d).set k a=A++[a]++List.replicate (n-(k+1)) d:=by
 rw[List.set_append_right _ _ (by omega),hA,Nat.sub_self,show n-k=n-(k+1)+1 by omega,List.replicate_succ,List.set_cons_zero]
 simp
abbrev jiU (L:List CD) (l:List ByteArray):List CV:=[.vec .cell L,.vec .str l]
abbrev jiV (L:List CD) (l:List ByteArray):Prop×Res:=(L.length≤60000∧l.length≤60000∧(∀s∈l,SLen s)∧(∀c∈L,0≤c.link∧c.link<65536),.ret (.tup [.vec .cell (L.map (jbl l (jah l L))),.vec .str (jah l L)]))
noncomputable def sp_rcanon:Spec:=spOf (α:=(List CD)×(List ByteArray)) (fun⟨L,l⟩=>jiU L l) fun⟨L,l⟩=>jiV L l
theorem jbC (L:List CD) (l:List ByteArray):sp_rcanon (jiU L l)=some (jiV L l):=jad _ injS (L,l)
theorem jo3:Fresh Tryz.prog E0 86 sp_rcanon:=Fresh.of fun⟨L,l⟩ hG=>TF.intro (V:=(VV [(121,conF [.sl .str,.any] sp_rleads),(122,conF [.sl .str,.any] sp_rplace)] (.cons (jaa jgW) (Fresh.soundF joZ) (.cons (jaa jgV) (Fresh.soundF joT) GOk.nil)) 82 0)) jgY rfl rfl (by
 dsimp only[jiU,jiV]at hG ⊢
 obtain⟨hL,hl,hs,hc⟩:=hG
 repeat' first|simp only[SA,seval,rdB,jar,jaq,List.drop_replicate,List.set_set]|simp only[hw]|simp only[hw2]|refine tT ?_|refine Cos.intro [] [] rfl ?_|refine And.intro ?_ ?_|exact tC|(refine tI ?_;intro hyp)|intro hyp0|omega
 refine T.loop (fun k:Nat=>⟨[(0,.vec .cell L),(1,.vec .str l),(6,.slice 0 0 1 (jah l (L.take k)).length (jah l (L.take k)).length),(7,.int .i64 k)],[.seq .str (jah l (L.take k))]⟩) (fun k=>k≤L.length) (fun k=>L.length-k) 0 (by omega) (Cos.intro [0] [] rfl (by simp only[SA,seval,rdB,jar,jaq,List.drop_replicate,List.set_set];simp[jah])) (fun k hk=>?_)
 have hlen:(jah l (L.take k)).length≤60000:=by
  have:=jhT l (L.take k)
  rw[List.length_take]at this
  omega
 have hck:k<L.length→0≤(L.getD k default).link∧(L.getD k default).link<65536:=fun h=>hc _ (jeE h)
 by_cases hkl:k<L.length
 ·have hck:=hck hkl
  have hst:=jm0 (l:=l) hkl
  repeat' first|exact hs|simp only[SA,seval,rdB,jar,jaq,List.drop_replicate,List.set_set]|simp only[hw]|simp only[hw2]|refine tT ?_|refine Cos.intro [] [] rfl ?_|refine And.intro ?_ ?_|exact tC|(refine tI ?_;intro hyp)|intro hyp0|omega
  ·refine⟨k+1,by omega,by omega,Cos.intro [2] [] rfl ?_⟩
   rw[hst,jbx,if_pos (by rw[←jiS];exact hyp)]
   simp only[SA,seval,rdB,jar,jaq,List.drop_replicate,List.set_set]
   simp
  ·refine⟨k+1,by omega,by omega,Cos.intro [0] [] rfl ?_⟩
   rw[hst,jbx,if_neg (by rw[←jiS];exact fun q=>hyp.elim q.1 (fun w=>w q.2))]
   simp only[SA,seval,rdB,jar,jaq,List.drop_replicate,List.set_set]
   simp
 ·have e:L.take k=L:=List.take_of_length_le (by omega)
  rw[e]
  repeat' first|simp only[SA,seval,rdB,jar,jaq,List.drop_replicate,List.set_set]|simp only[hw]|simp only[hw2]|refine tT ?_|refine Cos.intro [] [] rfl ?_|refine And.intro ?_ ?_|exact tC|(refine tI ?_;intro hyp)|intro hyp0|omega
  rw[e]at hlen
  refine T.loop (fun k:Nat=>⟨[(0,.vec .cell L),(1,.vec .str l),(6,.slice 0 0 1 (jah l L).length (jah l L).length),(9,.slice 1 0 6 L.length L.length),(43,.int .i64 L.length),(44,.int .i64 k)],[.seq .str (jah l L),.seq .cell ((L.take k).map (jbl l (jah l L))++List.replicate (L.length-k) default)]⟩) (fun k=>k≤L.length) (fun k=>L.length-k) 0 (by omega) (Cos.intro [0,1] [] rfl (by simp only[SA,seval,rdB,jar,jaq,List.drop_replicate,List.set_set];simp)) (fun k hk=>?_)
  have hml:((L.take k).map (jbl l (jah l L))).length=k:=by simp;omega
  by_cases hkl:k<L.length
  ·have hck:=hc _ (jeE hkl)
   have hn:=joA l (jah l L) (L.getD k default).link
   have hw:∀a:CD,(((L.take k).map (jbl l (jah l L))++List.replicate (L.length-k) default).set k a).getD k default=a:=fun a=>jiT (by simp;omega)
   have hts:((L.take k).map (jbl l (jah l L))++List.replicate (L.length-k) default).set k (jbl l (jah l L) (L.getD k default))=(L.take (k+1)).map (jbl l (jah l L))++List.replicate (L.length-(k+1)) default:=by
    rw[jaK (jdm hkl),List.map_append,jup (by simp;omega) hkl]
    rfl
   by_cases hb:jap l (L.getD k default).link=bs []
   ·have hcn:jbl l (jah l L) (L.getD k default)={ L.getD k default with link:=0 }:=by
     rw[jbl,jc2,if_pos (hb.trans jiS)]
     rfl
    rw[hcn]at hts
    repeat' first|exact hs|exact absurd hyp hb|exact absurd hb hyp|simp only[SA,seval,rdB,jar,jaq,List.drop_replicate,List.set_set]|simp only[hw]|simp only[hw2]|refine tT ?_|refine Cos.intro [] [] rfl ?_|refine And.intro ?_ ?_|exact tC|(refine tI ?_;intro hyp)|intro hyp0|omega
    refine⟨k+1,by omega,by omega,Cos.intro [0,1] [] rfl ?_⟩
    rw[hts]
    simp only[SA,seval,rdB,jar,jaq,List.drop_replicate,List.set_set]
    simp
   ·have hcn:jc2 l (jah l L) (L.getD k default).link=jan (jah l L) (jap l (L.getD k default).link)+1:=if_neg hb
    have hcc:jbl l (jah l L) (L.getD k default)={ L.getD k default with link:=jan (jah l L) (jap l (L.getD k default).link)+1 }:=by
     rw[jbl,hcn]
     rfl
    have hw2:IntKind.u16.wrap (jan (jah l L) (jap l (L.getD k default).link)+1)=jan (jah l L) (jap l (L.getD k default).link)+1:=jtQ (by omega)
    rw[hcc]at hts
    repeat' first|exact hs|exact absurd hyp hb|exact absurd hb hyp|simp only[SA,seval,rdB,jar,jaq,List.drop_replicate,List.set_set]|simp only[hw]|simp only[hw2]|refine tT ?_|refine Cos.intro [] [] rfl ?_|refine And.intro ?_ ?_|exact tC|(refine tI ?_;intro hyp)|intro hyp0|omega
    refine⟨k+1,by omega,by omega,Cos.intro [0,1] [] rfl ?_⟩
    rw[hts]
    simp only[SA,seval,rdB,jar,jaq,List.drop_replicate,List.set_set]
    simp
  ·have e:L.take k=L:=List.take_of_length_le (by omega)
   rw[e]
   have hlm:(L.map (jbl l (jah l L))).length=L.length:=by simp
   rw[show L.length-k=0 by omega,List.replicate_zero,List.append_nil]
   repeat' first|simp only[SA,seval,rdB,jar,jaq,List.drop_replicate,List.set_set]|simp only[hw]|simp only[hw2]|refine tT ?_|refine Cos.intro [1,0] [] rfl ?_|refine And.intro ?_ ?_|exact tC|(refine tI ?_;intro hyp)|intro hyp0|omega)
theorem jm1 {l:List ByteArray}{L:List CD}{k:Nat}(h:k<L.length):(L.map (jbl l (jah l L))).getD k default=jbl l (jah l L) (L.getD k default):=by
 rw[List.getD_eq_getElem?_getD,List.getElem?_map,jdm h]
 rfl
theorem jqY {L:List CD}{k:Nat}(h:k<L.length):cAt L k=L.getD k default:=jgP (jdm h)
abbrev jg0 (L:List CD) (l:List ByteArray):List CV:=[.vec .cell L,.vec .str l]
abbrev jg1 (L:List CD) (l:List ByteArray):Prop×Res:=(L.length≤60000∧l.length≤60000∧(∀s∈l,SLen s)∧(∀c∈L,0≤c.link∧c.link<65536),.ret (.bool (jd5 L l)))
noncomputable def sp_rlright:Spec:=spOf (α:=(List CD)×(List ByteArray)) (fun⟨L,l⟩=>jg0 L l) fun⟨L,l⟩=>jg1 L l
theorem jbi (L:List CD) (l:List ByteArray):sp_rlright (jg0 L l)=some (jg1 L l):=jad _ injS (L,l)
theorem jm2:Alias Tryz.prog E0 37 sp_rlright:=Alias.of fun⟨L,l⟩ hG=>TF.intro (V:=(VV [(86,conF [.sl .cell,.sl .str] sp_rcanon),(34,conF [.sl .str,.sl .str] sp_rssame)] (.cons (jaa jgY) (Fresh.soundF jo3) (.cons (jaa jhW) (Fresh.soundF joW) GOk.nil)) 39 0)) jgX rfl rfl (by
 dsimp only[jg0,jg1]at hG ⊢
 obtain⟨hL,hl,hs,hc⟩:=hG
 have hm:=jhT l L
 repeat' first|exact hs|exact hc|simp only[SA,seval,rdB,jbC,jbA,List.drop_replicate,List.set_set]|simp only[hw]|simp only[hw2]|refine tT ?_|refine Cos.intro [] [] rfl ?_|refine And.intro ?_ ?_|exact tC|(refine tI ?_;intro hyp)|intro hyp0|omega
 ·simp only[jd5,decide_eq_false (by omega:¬l.length≤16),Bool.false_and]
 have hmm:(jah l L).length≤4611686018427387904:=by omega
 refine T.loop (fun k:Nat=>⟨[(0,.vec .cell L),(1,.vec .str l),(5,.vec .cell (L.map (jbl l (jah l L)))),(6,.vec .str (jah l L)),(18,.int .i64 L.length),(19,.int .i64 k)],[]⟩) (fun k=>k≤L.length∧∀j,j<k→decide (jc2 l (jah l L) (cAt L j).link=(cAt L j).link)=true) (fun k=>L.length-k) 0 ⟨by omega,fun j hj=>by omega⟩ (Cos.intro [] [] rfl (by (simp only[SA,seval,rdB,jbC,jbA,List.drop_replicate,List.set_set]);first|done|(repeat' apply And.intro)<;>first|rfl|omega|simp)) (fun k ⟨hk,hall⟩=>?_)
 by_cases hkl:k<L.length
 ·have hw:=jm1 (l:=l) hkl
  have hw2:(jbl l (jah l L) (L.getD k default)).link=jc2 l (jah l L) (L.getD k default).link:=rfl
  have hcg:=jqY hkl
  have hlm:(L.map (jbl l (jah l L))).length=L.length:=by simp
  have hkm:k<(L.map (jbl l (jah l L))).length:=by omega
  repeat' first|simp only[SA,seval,rdB,jbC,jbA,List.drop_replicate,List.set_set]|simp only[hw]|simp only[hw2]|refine tT ?_|refine Cos.intro [] [] rfl ?_|refine And.intro ?_ ?_|exact tC|(refine tI ?_;intro hyp)|intro hyp0|omega
  ·rw[jd5,jaD hkl (by rw[hcg];exact decide_eq_false hyp),Bool.and_false,Bool.false_and]
  ·exact⟨k+1,⟨by omega,jb6 (by rw[hcg];exact decide_eq_true hyp) hall⟩,by omega,(Cos.intro [] [] rfl (by (simp only[SA,seval,rdB,jbC,jbA,List.drop_replicate,List.set_set]);first|done|(repeat' apply And.intro)<;>first|rfl|omega|simp))⟩
 ·repeat' first|simp only[SA,seval,rdB,jbC,jbA,List.drop_replicate,List.set_set]|simp only[hw]|simp only[hw2]|refine tT ?_|refine Cos.intro [] [] rfl ?_|refine And.intro ?_ ?_|exact tC|(refine tI ?_;intro hyp)|intro hyp0|omega
  rw[jd5,jbh (n:=L.length) (k:=k) (by omega) hall,Bool.and_true,decide_eq_true (by omega:l.length≤16),Bool.true_and])
theorem jm3:Fresh Tryz.prog E0 37 sp_rlright:=Alias.fresh jm2 (fun x=>rfl)
end
end Go.Proofs.YtienkkicehmchaaGreatDoor
