/- Texts of this claim, merged by a program of this claim: FLinks. -/
import Derived.Test.YtcfkfgkndncanaaGreatDoorMa13
import Derived.Test.YtcfkfgkndncanaaGreatDoorMa18
import Derived.Test.YtcfkfgkndncanaaGreatDoorMa19
namespace Go.Proofs.YtcfkfgkndncanaaGreatDoor
set_option linter.unusedVariables false
set_option linter.unusedSimpArgs false
section
open Go.RowKit
set_option maxRecDepth 100000
set_option maxHeartbeats 4000000
theorem jmK (s:ByteArray) (i:Nat):(ja1 s).getD i 0=((s.data.toList.getD i 0).toNat:Int):=by
 simp only[ja1,List.getD_eq_getElem?_getD,List.getElem?_map]
 cases s.data.toList[i]?<;>rfl
def chrB (s:ByteArray) (i:Nat):Bool:=decide (33≤(s.data.toList.getD i 0).toNat)&&decide ((s.data.toList.getD i 0).toNat≤126)
theorem jgg (s:ByteArray):jdn s=(decide (1≤s.size)&&decide (s.size≤64)&&(List.range s.size).all (chrB s)):=rfl
abbrev SLen (s:ByteArray):Prop:=s.size≤9223372036854775807
abbrev jv6 (s:ByteArray):List CV:=[.str s]
abbrev jv7 (s:ByteArray):Prop×Res:=(SLen s,.ret (.bool (jdn s)))
noncomputable def sp_lmay:Spec:=spOf (α:=ByteArray) (fun s=>jv6 s) fun s=>jv7 s
theorem jbg (s:ByteArray):sp_lmay (jv6 s)=some (jv7 s):=jaq _ injS s
theorem jz6:Alias Tryz.prog E0 99 sp_lmay:=Alias.of fun s hG=>TF.intro (V:=(VV [] GOk.nil 28 0)) jex rfl rfl (by
 dsimp only[jv6,jv7]at hG ⊢
 repeat' first|simp only[SA,seval,rdB,List.drop_replicate,List.set_set]|simp only[hw]|refine tT ?_|refine And.intro ?_ ?_|exact tC|(refine tI ?_;intro hyp)|intro hyp0|omega
 refine T.loop (fun k:Nat=>⟨[(0,.str s),(5,.int .i64 s.size),(6,.int .i64 k)],[]⟩) (fun k=>k≤s.size∧∀j,j<k→chrB s j=true) (fun k=>s.size-k) 0 ⟨by omega,fun j hj=>by omega⟩ (Cos.intro [] [] rfl (by (simp only[SA,seval,rdB,List.drop_replicate,List.set_set]);first|done|(repeat' apply And.intro)<;>first|rfl|omega|simp)) (fun k ⟨hk,hall⟩=>?_)
 have hw:=jmK s k
 repeat' first|simp only[SA,seval,rdB,List.drop_replicate,List.set_set]|simp only[hw]|refine tT ?_|refine Cos.intro [] [] rfl ?_|refine And.intro ?_ ?_|exact tC|(refine tI ?_;intro hyp)|intro hyp0|omega
 ·rw[jgg,jcj (by omega:k<s.size) (by simp only[chrB,HB,ne_eq,reduceCtorEq];omega),Bool.and_false]
 ·exact⟨k+1,⟨by omega,jet (by simp only[chrB,HB,ne_eq,reduceCtorEq];omega) hall⟩,by omega,(Cos.intro [] [] rfl (by (simp only[SA,seval,rdB,List.drop_replicate,List.set_set]);first|done|(repeat' apply And.intro)<;>first|rfl|omega|simp))⟩
 ·rw[jgg,jdl (n:=s.size) (k:=k) (by omega) hall,Bool.and_true]
  rw[←Bool.decide_and,←Bool.decide_and]
  exact decide_eq_decide.2 (by omega))
theorem jq9:Fresh Tryz.prog E0 99 sp_lmay:=Alias.fresh jz6 (fun x=>rfl)
abbrev jra (s:ByteArray):List CV:=[.str s]
abbrev jrb (s:ByteArray):Prop×Res:=(SLen s,.ret (.bool (jdn s)))
noncomputable def sp_rlmay:Spec:=spOf (α:=ByteArray) (fun s=>jra s) fun s=>jrb s
theorem jbU (s:ByteArray):sp_rlmay (jra s)=some (jrb s):=jaq _ injS s
theorem jyc:Alias Tryz.prog E0 70 sp_rlmay:=Alias.of fun s hG=>TF.intro (V:=(VV [] GOk.nil 28 0)) jlr rfl rfl (by
 dsimp only[jra,jrb]at hG ⊢
 repeat' first|simp only[SA,seval,rdB,List.drop_replicate,List.set_set]|simp only[hw]|refine tT ?_|refine Cos.intro [] [] rfl ?_|refine And.intro ?_ ?_|exact tC|(refine tI ?_;intro hyp)|intro hyp0|omega
 ·rw[jgg,←Bool.decide_and,decide_eq_false (by omega),Bool.false_and]
 refine T.loop (fun k:Nat=>⟨[(0,.str s),(3,.int .i64 k)],[]⟩) (fun k=>k≤s.size∧∀j,j<k→chrB s j=true) (fun k=>s.size-k) 0 ⟨by omega,fun j hj=>by omega⟩ (Cos.intro [] [] rfl (by (simp only[SA,seval,rdB,List.drop_replicate,List.set_set]);first|done|(repeat' apply And.intro)<;>first|rfl|omega|simp)) (fun k ⟨hk,hall⟩=>?_)
 have hw:=jmK s k
 repeat' first|simp only[SA,seval,rdB,List.drop_replicate,List.set_set]|simp only[hw]|refine tT ?_|refine Cos.intro [] [] rfl ?_|refine And.intro ?_ ?_|exact tC|(refine tI ?_;intro hyp)|intro hyp0|omega
 ·rw[jgg,jcj (by omega:k<s.size) (by simp only[chrB,HB,ne_eq,reduceCtorEq];omega),Bool.and_false]
 ·exact⟨k+1,⟨by omega,jet (by simp only[chrB,HB,ne_eq,reduceCtorEq];omega) hall⟩,by omega,(Cos.intro [] [] rfl (by (simp only[SA,seval,rdB,List.drop_replicate,List.set_set]);first|done|(repeat' apply And.intro)<;>first|rfl|omega|simp))⟩
 ·rw[jgg,jdl (n:=s.size) (k:=k) (by omega) hall,Bool.and_true,←Bool.decide_and,decide_eq_true (by omega)])
theorem jsA:Fresh Tryz.prog E0 70 sp_rlmay:=Alias.fresh jyc (fun x=>rfl)
abbrev jnW (l:List ByteArray) (s:ByteArray):List CV:=[.vec .str l,.str s]
abbrev jnX (l:List ByteArray) (s:ByteArray):Prop×Res:=(l.length≤4611686018427387904,.ret (.int .i64 (jbd l s)))
noncomputable def sp_sindex:Spec:=spOf (α:=(List ByteArray)×ByteArray) (fun⟨l,s⟩=>jnW l s) fun⟨l,s⟩=>jnX l s
theorem jbw (l:List ByteArray) (s:ByteArray):sp_sindex (jnW l s)=some (jnX l s):=jaq _ injS (l,s)
theorem jv8:Alias Tryz.prog E0 114 sp_sindex:=Alias.of fun⟨l,s⟩ hG=>TF.intro (V:=(VV [] GOk.nil 19 0)) jbW rfl rfl (by
 dsimp only[jnW,jnX]at hG ⊢
 repeat' first|simp only[SA,seval,rdB,List.drop_replicate,List.set_set]|refine tT ?_|refine And.intro ?_ ?_|exact tC|(refine tI ?_;intro hyp)|intro hyp0|omega
 refine T.loop (fun k:Nat=>⟨[(0,.vec .str l),(1,.str s),(7,.int .i64 l.length),(8,.int .i64 k)],[]⟩) (fun k=>k≤l.length∧∀(j:Nat) (x:ByteArray),j<k→l[j]?=some x→jh2 x s=false) (fun k=>l.length-k) 0 ⟨by omega,fun j x hj=>by omega⟩ (Cos.intro [] [] rfl (by (simp only[SA,seval,rdB,List.drop_replicate,List.set_set]);first|done|(repeat' apply And.intro)<;>first|rfl|omega|simp)) (fun k ⟨hk,hall⟩=>?_)
 repeat' first|simp only[SA,seval,rdB,List.drop_replicate,List.set_set]|refine tT ?_|refine Cos.intro [] [] rfl ?_|refine And.intro ?_ ?_|exact tC|(refine tI ?_;intro hyp)|intro hyp0|omega
 ·exact (jgc l s k hall _ (jcT (d:=ETy.str.dflt) (by omega)) (jeu.2 (hyp.symm))).symm
 ·refine⟨k+1,⟨by omega,fun j x hj hx=>?_⟩,by omega,(Cos.intro [] [] rfl (by (simp only[SA,seval,rdB,List.drop_replicate,List.set_set]);first|done|(repeat' apply And.intro)<;>first|rfl|omega|simp))⟩
  by_cases e:j=k
  ·subst e
   rw[jcT (d:=ETy.str.dflt) (by omega)]at hx
   cases hx
   exact jfI.2 (fun q=>hyp (q.symm))
  ·exact hall j x (by omega) hx
 ·exact (jlb l s (fun j x hx=>hall j x (by have:=(List.getElem?_eq_some_iff.1 hx).1;omega) hx)).symm)
theorem jlu:Fresh Tryz.prog E0 114 sp_sindex:=Alias.fresh jv8 (fun x=>rfl)
abbrev jnY (l:List ByteArray) (s:ByteArray):List CV:=[.vec .str l,.str s]
abbrev jnZ (l:List ByteArray) (s:ByteArray):Prop×Res:=(l.length≤4611686018427387904,.ret (.int .i64 (jbd l s)))
noncomputable def sp_rplace:Spec:=spOf (α:=(List ByteArray)×ByteArray) (fun⟨l,s⟩=>jnY l s) fun⟨l,s⟩=>jnZ l s
theorem ja4 (l:List ByteArray) (s:ByteArray):sp_rplace (jnY l s)=some (jnZ l s):=jaq _ injS (l,s)
theorem jv9:Alias Tryz.prog E0 109 sp_rplace:=Alias.of fun⟨l,s⟩ hG=>TF.intro (V:=(VV [] GOk.nil 19 0)) jhu rfl rfl (by
 dsimp only[jnY,jnZ]at hG ⊢
 repeat' first|simp only[SA,seval,rdB,List.drop_replicate,List.set_set]|refine tT ?_|refine And.intro ?_ ?_|exact tC|(refine tI ?_;intro hyp)|intro hyp0|omega
 refine T.loop (fun k:Nat=>⟨[(0,.vec .str l),(1,.str s),(5,.int .i64 k)],[]⟩) (fun k=>k≤l.length∧∀(j:Nat) (x:ByteArray),j<k→l[j]?=some x→jh2 x s=false) (fun k=>l.length-k) 0 ⟨by omega,fun j x hj=>by omega⟩ (Cos.intro [] [] rfl (by (simp only[SA,seval,rdB,List.drop_replicate,List.set_set]);first|done|(repeat' apply And.intro)<;>first|rfl|omega|simp)) (fun k ⟨hk,hall⟩=>?_)
 repeat' first|simp only[SA,seval,rdB,List.drop_replicate,List.set_set]|refine tT ?_|refine Cos.intro [] [] rfl ?_|refine And.intro ?_ ?_|exact tC|(refine tI ?_;intro hyp)|intro hyp0|omega
 ·exact (jgc l s k hall _ (jcT (d:=ETy.str.dflt) (by omega)) (jeu.2 (hyp))).symm
 ·refine⟨k+1,⟨by omega,fun j x hj hx=>?_⟩,by omega,(Cos.intro [] [] rfl (by (simp only[SA,seval,rdB,List.drop_replicate,List.set_set]);first|done|(repeat' apply And.intro)<;>first|rfl|omega|simp))⟩
  by_cases e:j=k
  ·subst e
   rw[jcT (d:=ETy.str.dflt) (by omega)]at hx
   cases hx
   exact jfI.2 (fun q=>hyp (q))
  ·exact hall j x (by omega) hx
 ·exact (jlb l s (fun j x hx=>hall j x (by have:=(List.getElem?_eq_some_iff.1 hx).1;omega) hx)).symm)
theorem jpC:Fresh Tryz.prog E0 109 sp_rplace:=Alias.fresh jv9 (fun x=>rfl)
abbrev jhw (l:List ByteArray) (s:ByteArray):List CV:=[.vec .str l,.str s]
abbrev jhx (l:List ByteArray) (s:ByteArray):Prop×Res:=(l.length≤4611686018427387904,.ret (.bool (decide (0≤jbd l s))))
noncomputable def sp_scontains:Spec:=spOf (α:=(List ByteArray)×ByteArray) (fun⟨l,s⟩=>jhw l s) fun⟨l,s⟩=>jhx l s
theorem jbK (l:List ByteArray) (s:ByteArray):sp_scontains (jhw l s)=some (jhx l s):=jaq _ injS (l,s)
theorem jpD:Alias Tryz.prog E0 100 sp_scontains:=Alias.of fun⟨l,s⟩ hG=>TF.intro (V:=(VV [(114,conF [.sl .str,.any] sp_sindex)] (.cons (jaa jbW) (Fresh.soundF jlu) GOk.nil) 9 0)) jcq rfl rfl (by
 dsimp only[jhw,jhx]at hG ⊢
 repeat' first|simp only[SA,seval,rdB,jbw,List.drop_replicate,List.set_set]|refine tT ?_|refine Cos.intro [] [] rfl ?_|refine And.intro ?_ ?_|exact tC|(refine tI ?_;intro hyp)|intro hyp0|omega)
theorem jpE:Fresh Tryz.prog E0 100 sp_scontains:=Alias.fresh jpD (fun x=>rfl)
abbrev jn0 (L:List ByteArray):List CV:=[.vec .str L]
abbrev jn1 (L:List ByteArray):Prop×Res:=(L.length≤1000000,.ret (.vec .str L))
noncomputable def sp_sclone:Spec:=spOf (α:=(List ByteArray)) (fun L=>jn0 L) fun L=>jn1 L
theorem jat (L:List ByteArray):sp_sclone (jn0 L)=some (jn1 L):=jaq _ injS L
theorem jpF:Fresh Tryz.prog E0 25 sp_sclone:=Fresh.of fun L hG=>TF.intro (V:=(VV [] GOk.nil 8 0)) jcQ rfl rfl (by
 dsimp only[jn0,jn1]at hG ⊢
 repeat' first|simp only[SA,seval,rdB,List.drop_replicate,List.set_set]|refine tT ?_|refine Cos.row (t:=.str) rfl ?_ rfl (Nat.le_refl _)|exact Cos.nilRow (t:=.str) (by cases L<;>simp_all)|refine And.intro ?_ ?_|exact tC|(refine tI ?_;intro hyp)|intro hyp0|omega)
abbrev jn2 (L:List ByteArray):List CV:=[.vec .str L]
abbrev jn3 (L:List ByteArray):Prop×Res:=(L.length≤1000000,.ret (.vec .str L))
noncomputable def sp_rscopy:Spec:=spOf (α:=(List ByteArray)) (fun L=>jn2 L) fun L=>jn3 L
theorem jau (L:List ByteArray):sp_rscopy (jn2 L)=some (jn3 L):=jaq _ injS L
theorem jpG:Fresh Tryz.prog E0 30 sp_rscopy:=Fresh.of fun L hG=>TF.intro (V:=(VV [] GOk.nil 11 0)) jiT rfl rfl (by
 dsimp only[jn2,jn3]at hG ⊢
 repeat' first|simp only[SA,seval,rdB,List.drop_replicate,List.set_set]|refine tT ?_|refine Cos.row (t:=.str) rfl ?_ rfl (Nat.le_refl _)|refine And.intro ?_ ?_|exact tC|(refine tI ?_;intro hyp)|intro hyp0|omega)
abbrev jn4 (L:List ByteArray) (M:List ByteArray):List CV:=[.vec .str L,.vec .str M]
abbrev jn5 (L:List ByteArray) (M:List ByteArray):Prop×Res:=(L.length≤4611686018427387904∧M.length≤4611686018427387904,.ret (.bool (decide (L=M))))
noncomputable def sp_rssame:Spec:=spOf (α:=(List ByteArray)×(List ByteArray)) (fun⟨L,M⟩=>jn4 L M) fun⟨L,M⟩=>jn5 L M
theorem jc9 (L:List ByteArray) (M:List ByteArray):sp_rssame (jn4 L M)=some (jn5 L M):=jaq _ injS (L,M)
theorem jwa:Alias Tryz.prog E0 40 sp_rssame:=Alias.of fun⟨L,M⟩ hG=>TF.intro (V:=(VV [] GOk.nil 26 0)) jiS rfl rfl (by
 dsimp only[jn4,jn5]at hG ⊢
 repeat' first|simp only[SA,seval,rdB,List.drop_replicate,List.set_set]|refine tT ?_|refine Cos.intro [] [] rfl ?_|refine And.intro ?_ ?_|exact tC|(refine tI ?_;intro hyp)|intro hyp0|omega
 ·exact (decide_eq_false fun e=>by subst e;omega).symm
 ·refine T.loop (fun k:Nat=>⟨[(0,.vec .str L),(1,.vec .str M),(12,.int .i64 L.length),(13,.int .i64 k)],[]⟩) (fun k=>k≤L.length∧∀j,j<k→L[j]?=M[j]?) (fun k=>L.length-k) 0 ⟨by omega,fun j hj=>by omega⟩ (Cos.intro [] [] rfl (by (simp only[SA,seval,rdB,List.drop_replicate,List.set_set]);first|done|(repeat' apply And.intro)<;>first|rfl|omega|simp)) (fun k ⟨hk,hall⟩=>?_)
  repeat' first|simp only[SA,seval,rdB,List.drop_replicate,List.set_set]|refine tT ?_|refine Cos.intro [] [] rfl ?_|exact⟨k+1,⟨by omega,jhV (by omega) (by omega) hyp hall⟩,by omega,(Cos.intro [] [] rfl (by (simp only[SA,seval,rdB,List.drop_replicate,List.set_set]);first|done|(repeat' apply And.intro)<;>first|rfl|omega|simp))⟩|refine And.intro ?_ ?_|exact tC|(refine tI ?_;intro hyp)|intro hyp0|omega
  ·exact (decide_eq_false fun e=>by subst e;exact hyp rfl).symm
  ·exact (decide_eq_true (jj9 (by omega) (by omega) hall)).symm)
theorem jpH:Fresh Tryz.prog E0 40 sp_rssame:=Alias.fresh jwa (fun x=>rfl)
theorem jlv {l:List ByteArray}{i:Nat}(h:i<l.length):l.getD i ETy.str.dflt∈l:=List.mem_of_getElem? (jcT h)
theorem jpI {l:List ByteArray}{v:Int}(h:¬v=0∧¬(l.length:Int)<v) (hb:jdn (l.getD (v-1).toNat ETy.str.dflt)=true):jbf l v=l.getD (v-1).toNat ETy.str.dflt:=by
 unfold jbf
 rw[if_neg (by omega),show sAt l (v-1).toNat=l.getD (v-1).toNat ETy.str.dflt from rfl,if_pos hb]
theorem jn6 {l:List ByteArray}{v:Int}(h:(v=0∨(l.length:Int)<v)∨jdn (l.getD (v-1).toNat ETy.str.dflt)=false):jbf l v=bs []:=by
 unfold jbf
 by_cases e:v=0∨(l.length:Int)<v
 ·rw[if_pos e];rfl
 ·rw[if_neg e,show sAt l (v-1).toNat=l.getD (v-1).toNat ETy.str.dflt from rfl,if_neg (by rw[h.resolve_left e];decide)];rfl
abbrev jn7 (l:List ByteArray) (v:Int):List CV:=[.vec .str l,.int .u16 v]
abbrev jn8 (l:List ByteArray) (v:Int):Prop×Res:=(l.length≤1000000∧(0≤v∧v<65536)∧(∀s∈l,SLen s),.ret (.str (jbf l v)))
noncomputable def sp_rleads:Spec:=spOf (α:=(List ByteArray)×Int) (fun⟨l,v⟩=>jn7 l v) fun⟨l,v⟩=>jn8 l v
theorem ja5 (l:List ByteArray) (v:Int):sp_rleads (jn7 l v)=some (jn8 l v):=jaq _ injS (l,v)
theorem jwb:Alias Tryz.prog E0 108 sp_rleads:=Alias.of fun⟨l,v⟩ hG=>TF.intro (V:=(VV [(70,conF [.any] sp_rlmay)] (.cons (jaa jlr) (Fresh.soundF jsA) GOk.nil) 28 0)) jhv rfl rfl (by
 dsimp only[jn7,jn8]at hG ⊢
 obtain⟨hl,hv,hs⟩:=hG
 have hw:1≤v→IntKind.u16.wrap (v-1)=v-1:=fun h=>jnc (by omega)
 by_cases h0:v=0
 ·subst h0
  repeat' first|simp only[SA,seval,rdB,jbU,List.drop_replicate,List.set_set]|simp only[hw]|refine tT ?_|refine Cos.intro [] [] rfl ?_|refine And.intro ?_ ?_|exact tC|(refine tI ?_;intro hyp)|intro hyp0|omega
  ·exact (jn6 (Or.inl (Or.inl rfl))).symm
 ·have hw:=hw (by omega)
  repeat' first|simp only[SA,seval,rdB,jbU,List.drop_replicate,List.set_set]|simp only[hw]|refine tT ?_|refine Cos.intro [] [] rfl ?_|refine And.intro ?_ ?_|exact tC|(refine tI ?_;intro hyp)|intro hyp0|omega
  ·exact hs _ (jlv (by omega))
  ·exact (jn6 hyp).symm
  ·exact (jpI hyp.1 hyp.2).symm)
theorem jpJ:Fresh Tryz.prog E0 108 sp_rleads:=Alias.fresh jwb (fun x=>rfl)
theorem jty {l:List ByteArray}{k:Nat}(h:jdn (l.getD k ETy.str.dflt)=true∧¬0≤jbd (l.take k) (l.getD k ETy.str.dflt)):jh3 l k=true:=by
 show (jdn (l.getD k ETy.str.dflt) && !decide (0≤jbd (l.take k) (l.getD k ETy.str.dflt)))=true
 rw[h.1,decide_eq_false h.2];rfl
theorem jwc {l:List ByteArray}{k:Nat}(h:jdn (l.getD k ETy.str.dflt)=false∨0≤jbd (l.take k) (l.getD k ETy.str.dflt)):jh3 l k=false:=by
 show (jdn (l.getD k ETy.str.dflt) && !decide (0≤jbd (l.take k) (l.getD k ETy.str.dflt)))=false
 rcases h with h|h
 ·rw[h,Bool.false_and]
 ·rw[decide_eq_true h];simp
theorem jcW {L:List CD}{k:Nat}(h:k<L.length):L[k]?=some (L.getD k default):=jcT h
theorem jsB {m:Nat}{L:List CD}{k:Nat}{t:Int}(hk:k<L.length) (h:jfJ m (L.take k)=some t) (hn:¬(t+1<(L.getD k default).link∨(m:Int)<(L.getD k default).link)):jfJ m (L.take (k+1))=some (max t (L.getD k default).link):=by
 rw[jbC (jcW hk),jdx,h]
 exact if_neg hn
theorem jz7 {m:Nat}{L:List CD}{k:Nat}{t:Int}(hk:k<L.length) (h:jfJ m (L.take k)=some t) (hn:t+1<(L.getD k default).link∨(m:Int)<(L.getD k default).link):jfJ m L=none:=by
 rw[←List.take_append_drop (k+1) L]
 refine jtk m _ _ ?_
 rw[jbC (jcW hk),jdx,h]
 exact if_pos hn
theorem jyd {L:List CD}{l:List ByteArray}(h:jfJ l.length L=none):jct L l=false:=by
 simp[jct,h]
theorem jdN {L:List CD}{k:Nat}(h:k<L.length):L.getD k default∈L:=List.mem_of_getElem? (jcT h)
abbrev jn9 (L:List CD) (l:List ByteArray):List CV:=[.vec .cell L,.vec .str l]
abbrev joa (L:List CD) (l:List ByteArray):Prop×Res:=(L.length≤1000000∧l.length≤4611686018427387904∧(∀s∈l,SLen s)∧(∀c∈L,0≤c.link∧c.link<65536),.ret (.bool (jct L l)))
noncomputable def sp_lright:Spec:=spOf (α:=(List CD)×(List ByteArray)) (fun⟨L,l⟩=>jn9 L l) fun⟨L,l⟩=>joa L l
theorem jdO (L:List CD) (l:List ByteArray):sp_lright (jn9 L l)=some (joa L l):=jaq _ injS (L,l)
theorem jwd:Alias Tryz.prog E0 57 sp_lright:=Alias.of fun⟨L,l⟩ hG=>TF.intro (V:=(VV [(99,conF [.any] sp_lmay),(100,conF [.sl .str,.any] sp_scontains)] (.cons (jaa jex) (Fresh.soundF jq9) (.cons (jaa jcq) (Fresh.soundF jpE) GOk.nil)) 61 0)) jfO rfl rfl (by
 dsimp only[jn9,joa]at hG ⊢
 obtain⟨hL,hl,hs,hc⟩:=hG
 repeat' first|simp only[SA,seval,rdB,jbg,jbK,List.drop_replicate,List.set_set]|refine tT ?_|refine Cos.intro [] [] rfl ?_|refine And.intro ?_ ?_|exact tC|(refine tI ?_;intro hyp)|intro hyp0|omega
 ·simp only[jct,decide_eq_false (by omega:¬l.length≤16),Bool.false_and]
 refine T.loop (fun k:Nat=>⟨[(0,.vec .cell L),(1,.vec .str l),(14,.vec .str l),(15,.int .i64 l.length),(16,.int .i64 k)],[]⟩) (fun k=>k≤l.length∧∀j,j<k→jh3 l j=true) (fun k=>l.length-k) 0 ⟨by omega,fun j hj=>by omega⟩ (Cos.intro [] [] rfl (by (simp only[SA,seval,rdB,jbg,jbK,List.drop_replicate,List.set_set]);first|done|(repeat' apply And.intro)<;>first|rfl|omega|simp)) (fun k ⟨hk,hall⟩=>?_)
 repeat' first|simp only[SA,seval,rdB,jbg,jbK,List.drop_replicate,List.set_set]|refine tT ?_|refine Cos.intro [] [] rfl ?_|refine And.intro ?_ ?_|exact tC|(refine tI ?_;intro hyp)|intro hyp0|omega
 ·exact hs _ (jlv (by omega))
 ·rw[List.length_take];omega
 ·rw[jct,jcj (by omega:k<l.length) (jwc hyp),Bool.and_false,Bool.false_and]
 ·exact⟨k+1,⟨by omega,jet (jty hyp) hall⟩,by omega,(Cos.intro [] [] rfl (by (simp only[SA,seval,rdB,jbg,jbK,List.drop_replicate,List.set_set]);first|done|(repeat' apply And.intro)<;>first|rfl|omega|simp))⟩
 have hall:=fun j (h:j<l.length)=>hall j (by omega)
 refine T.loop (fun q:Nat×Int=>⟨[(1,.vec .str l),(7,.int .i64 q.2),(32,.vec .cell L),(33,.int .i64 L.length),(34,.int .i64 q.1)],[]⟩) (fun q=>q.1≤L.length∧(0≤q.2∧q.2<65536)∧jfJ l.length (L.take q.1)=some q.2) (fun q=>L.length-q.1) (0,0) ⟨by omega,by omega,rfl⟩ (Cos.intro [] [] rfl (by (simp only[SA,seval,rdB,jbg,jbK,List.drop_replicate,List.set_set]);first|done|(repeat' apply And.intro)<;>first|rfl|omega|simp)) (fun⟨k,t⟩ ⟨hk,ht,htop⟩=>?_)
 dsimp only at hk ht htop ⊢
 have hck:k<L.length→0≤(L.getD k default).link∧(L.getD k default).link<65536:=fun h=>hc _ (jdN h)
 by_cases hkl:k<L.length
 ·have hck:=hck hkl
  repeat' first|simp only[SA,seval,rdB,jbg,jbK,List.drop_replicate,List.set_set]|refine tT ?_|refine Cos.intro [] [] rfl ?_|refine And.intro ?_ ?_|exact tC|(refine tI ?_;intro hyp)|intro hyp0|omega
  ·exact (jyd (jz7 hkl htop (by omega))).symm
  ·exact⟨(k+1,(L.getD k default).link),⟨by omega,hck,by rw[jsB hkl htop (by omega)];congr 1;omega⟩,by simp only;omega,(Cos.intro [] [] rfl (by (simp only[SA,seval,rdB,jbg,jbK,List.drop_replicate,List.set_set]);first|done|(repeat' apply And.intro)<;>first|rfl|omega|simp))⟩
  ·exact⟨(k+1,t),⟨by omega,ht,by rw[jsB hkl htop (by omega)];congr 1;omega⟩,by simp only;omega,(Cos.intro [] [] rfl (by (simp only[SA,seval,rdB,jbg,jbK,List.drop_replicate,List.set_set]);first|done|(repeat' apply And.intro)<;>first|rfl|omega|simp))⟩
 ·have e:L.take k=L:=List.take_of_length_le (by omega)
  rw[e]at htop
  repeat' first|simp only[SA,seval,rdB,jbg,jbK,List.drop_replicate,List.set_set]|refine tT ?_|refine Cos.intro [] [] rfl ?_|refine And.intro ?_ ?_|exact tC|(refine tI ?_;intro hyp)|intro hyp0|omega
  ·have ha:(List.range l.length).all (jh3 l)=true:=List.all_eq_true.2 fun j hj=>hall j (List.mem_range.1 hj)
   rw[jct,htop,decide_eq_true (by omega:l.length≤16),ha,Bool.true_and,Bool.true_and]
   exact decide_eq_decide.2 ⟨fun e=>by rw[e],fun e=>Option.some.inj e⟩)
theorem jwe:Fresh Tryz.prog E0 57 sp_lright:=Alias.fresh jwd (fun x=>rfl)
theorem jtz {l:List ByteArray}{L:List CD}{k:Nat}(h:k<L.length):jal l (L.take (k+1))=jcP l (jal l (L.take k)) (L.getD k default):=by
 rw[jbC (jcW h),jbT]
theorem jke:bs []=emptyS:=rfl
theorem jdo {α:Type}{M:List α}{k:Nat}{a d:α}(h:k<M.length):(M.set k a).getD k d=a:=by
 rw[List.getD_eq_getElem?_getD,List.getElem?_set_self h]
 rfl
theorem jBf {α:Type}{A:List α}{n k:Nat}{a d:α}(hA:A.length=k) (h:k<n):(A++List.replicate (n-k) d).set k a=A++[a]++List.replicate (n-(k+1)) d:=by
 rw[List.set_append_right _ _ (by omega),hA,Nat.sub_self,show n-k=n-(k+1)+1 by omega,List.replicate_succ,List.set_cons_zero]
 simp
abbrev job (L:List CD) (l:List ByteArray):List CV:=[.vec .cell L,.vec .str l]
abbrev joc (L:List CD) (l:List ByteArray):Prop×Res:=(L.length≤60000∧l.length≤60000∧(∀s∈l,SLen s)∧(∀c∈L,0≤c.link∧c.link<65536),.ret (.tup [.vec .cell (L.map (jbJ l (jal l L))),.vec .str (jal l L)]))
noncomputable def sp_rcanon:Spec:=spOf (α:=(List CD)×(List ByteArray)) (fun⟨L,l⟩=>job L l) fun⟨L,l⟩=>joc L l
theorem jdP (L:List CD) (l:List ByteArray):sp_rcanon (job L l)=some (joc L l):=jaq _ injS (L,l)
theorem jwf:Fresh Tryz.prog E0 77 sp_rcanon:=Fresh.of fun⟨L,l⟩ hG=>TF.intro (V:=(VV [(108,conF [.sl .str,.any] sp_rleads),(109,conF [.sl .str,.any] sp_rplace)] (.cons (jaa jhv) (Fresh.soundF jpJ) (.cons (jaa jhu) (Fresh.soundF jpC) GOk.nil)) 82 0)) jlt rfl rfl (by
 dsimp only[job,joc]at hG ⊢
 obtain⟨hL,hl,hs,hc⟩:=hG
 repeat' first|simp only[SA,seval,rdB,ja5,ja4,List.drop_replicate,List.set_set]|simp only[hw]|simp only[hw2]|refine tT ?_|refine Cos.intro [] [] rfl ?_|refine And.intro ?_ ?_|exact tC|(refine tI ?_;intro hyp)|intro hyp0|omega
 refine T.loop (fun k:Nat=>⟨[(0,.vec .cell L),(1,.vec .str l),(6,.slice 0 0 1 (jal l (L.take k)).length (jal l (L.take k)).length),(7,.int .i64 k)],[.seq .str (jal l (L.take k))]⟩) (fun k=>k≤L.length) (fun k=>L.length-k) 0 (by omega) (Cos.intro [0] [] rfl (by simp only[SA,seval,rdB,ja5,ja4,List.drop_replicate,List.set_set];simp[jal])) (fun k hk=>?_)
 have hlen:(jal l (L.take k)).length≤60000:=by
  have:=jiN l (L.take k)
  rw[List.length_take]at this
  omega
 have hck:k<L.length→0≤(L.getD k default).link∧(L.getD k default).link<65536:=fun h=>hc _ (jdN h)
 by_cases hkl:k<L.length
 ·have hck:=hck hkl
  have hst:=jtz (l:=l) hkl
  repeat' first|exact hs|simp only[SA,seval,rdB,ja5,ja4,List.drop_replicate,List.set_set]|simp only[hw]|simp only[hw2]|refine tT ?_|refine Cos.intro [] [] rfl ?_|refine And.intro ?_ ?_|exact tC|(refine tI ?_;intro hyp)|intro hyp0|omega
  ·refine⟨k+1,by omega,by omega,Cos.intro [2] [] rfl ?_⟩
   rw[hst,jcP,if_pos (by rw[←jke];exact hyp)]
   simp only[SA,seval,rdB,ja5,ja4,List.drop_replicate,List.set_set]
   simp
  ·refine⟨k+1,by omega,by omega,Cos.intro [0] [] rfl ?_⟩
   rw[hst,jcP,if_neg (by rw[←jke];exact fun q=>hyp.elim q.1 (fun w=>w q.2))]
   simp only[SA,seval,rdB,ja5,ja4,List.drop_replicate,List.set_set]
   simp
 ·have e:L.take k=L:=List.take_of_length_le (by omega)
  rw[e]
  repeat' first|simp only[SA,seval,rdB,ja5,ja4,List.drop_replicate,List.set_set]|simp only[hw]|simp only[hw2]|refine tT ?_|refine Cos.intro [] [] rfl ?_|refine And.intro ?_ ?_|exact tC|(refine tI ?_;intro hyp)|intro hyp0|omega
  rw[e]at hlen
  refine T.loop (fun k:Nat=>⟨[(0,.vec .cell L),(1,.vec .str l),(6,.slice 0 0 1 (jal l L).length (jal l L).length),(9,.slice 1 0 6 L.length L.length),(43,.int .i64 L.length),(44,.int .i64 k)],[.seq .str (jal l L),.seq .cell ((L.take k).map (jbJ l (jal l L))++List.replicate (L.length-k) default)]⟩) (fun k=>k≤L.length) (fun k=>L.length-k) 0 (by omega) (Cos.intro [0,1] [] rfl (by simp only[SA,seval,rdB,ja5,ja4,List.drop_replicate,List.set_set];simp)) (fun k hk=>?_)
  have hml:((L.take k).map (jbJ l (jal l L))).length=k:=by simp;omega
  by_cases hkl:k<L.length
  ·have hck:=hc _ (jdN hkl)
   have hn:=jvw l (jal l L) (L.getD k default).link
   have hw:∀a:CD,(((L.take k).map (jbJ l (jal l L))++List.replicate (L.length-k) default).set k a).getD k default=a:=fun a=>jdo (by simp;omega)
   have hts:((L.take k).map (jbJ l (jal l L))++List.replicate (L.length-k) default).set k (jbJ l (jal l L) (L.getD k default))=(L.take (k+1)).map (jbJ l (jal l L))++List.replicate (L.length-(k+1)) default:=by
    rw[jbC (jcW hkl),List.map_append,jBf (by simp;omega) hkl]
    rfl
   by_cases hb:jbf l (L.getD k default).link=bs []
   ·have hcn:jbJ l (jal l L) (L.getD k default)={ L.getD k default with link:=0 }:=by
     rw[jbJ,jdt,if_pos (hb.trans jke)]
     rfl
    rw[hcn]at hts
    repeat' first|exact hs|exact absurd hyp hb|exact absurd hb hyp|simp only[SA,seval,rdB,ja5,ja4,List.drop_replicate,List.set_set]|simp only[hw]|simp only[hw2]|refine tT ?_|refine Cos.intro [] [] rfl ?_|refine And.intro ?_ ?_|exact tC|(refine tI ?_;intro hyp)|intro hyp0|omega
    refine⟨k+1,by omega,by omega,Cos.intro [0,1] [] rfl ?_⟩
    rw[hts]
    simp only[SA,seval,rdB,ja5,ja4,List.drop_replicate,List.set_set]
    simp
   ·have hcn:jdt l (jal l L) (L.getD k default).link=jbd (jal l L) (jbf l (L.getD k default).link)+1:=if_neg hb
    have hcc:jbJ l (jal l L) (L.getD k default)={ L.getD k default with link:=jbd (jal l L) (jbf l (L.getD k default).link)+1 }:=by
     rw[jbJ,hcn]
     rfl
    have hw2:IntKind.u16.wrap (jbd (jal l L) (jbf l (L.getD k default).link)+1)=jbd (jal l L) (jbf l (L.getD k default).link)+1:=jnc (by omega)
    rw[hcc]at hts
    repeat' first|exact hs|exact absurd hyp hb|exact absurd hb hyp|simp only[SA,seval,rdB,ja5,ja4,List.drop_replicate,List.set_set]|simp only[hw]|simp only[hw2]|refine tT ?_|refine Cos.intro [] [] rfl ?_|refine And.intro ?_ ?_|exact tC|(refine tI ?_;intro hyp)|intro hyp0|omega
    refine⟨k+1,by omega,by omega,Cos.intro [0,1] [] rfl ?_⟩
    rw[hts]
    simp only[SA,seval,rdB,ja5,ja4,List.drop_replicate,List.set_set]
    simp
  ·have e:L.take k=L:=List.take_of_length_le (by omega)
   rw[e]
   have hlm:(L.map (jbJ l (jal l L))).length=L.length:=by simp
   rw[show L.length-k=0 by omega,List.replicate_zero,List.append_nil]
   repeat' first|simp only[SA,seval,rdB,ja5,ja4,List.drop_replicate,List.set_set]|simp only[hw]|simp only[hw2]|refine tT ?_|refine Cos.intro [1,0] [] rfl ?_|refine And.intro ?_ ?_|exact tC|(refine tI ?_;intro hyp)|intro hyp0|omega)
theorem jtA {l:List ByteArray}{L:List CD}{k:Nat}(h:k<L.length):(L.map (jbJ l (jal l L))).getD k default=jbJ l (jal l L) (L.getD k default):=by
 rw[List.getD_eq_getElem?_getD,List.getElem?_map,jcW h]
 rfl
theorem jye {L:List CD}{k:Nat}(h:k<L.length):cAt L k=L.getD k default:=jjQ (jcW h)
abbrev jlw (L:List CD) (l:List ByteArray):List CV:=[.vec .cell L,.vec .str l]
abbrev jlx (L:List CD) (l:List ByteArray):Prop×Res:=(L.length≤60000∧l.length≤60000∧(∀s∈l,SLen s)∧(∀c∈L,0≤c.link∧c.link<65536),.ret (.bool (jhs L l)))
noncomputable def sp_rlright:Spec:=spOf (α:=(List CD)×(List ByteArray)) (fun⟨L,l⟩=>jlw L l) fun⟨L,l⟩=>jlx L l
theorem jdp (L:List CD) (l:List ByteArray):sp_rlright (jlw L l)=some (jlx L l):=jaq _ injS (L,l)
theorem jtB:Alias Tryz.prog E0 43 sp_rlright:=Alias.of fun⟨L,l⟩ hG=>TF.intro (V:=(VV [(77,conF [.sl .cell,.sl .str] sp_rcanon),(40,conF [.sl .str,.sl .str] sp_rssame)] (.cons (jaa jlt) (Fresh.soundF jwf) (.cons (jaa jiS) (Fresh.soundF jpH) GOk.nil)) 39 0)) jls rfl rfl (by
 dsimp only[jlw,jlx]at hG ⊢
 obtain⟨hL,hl,hs,hc⟩:=hG
 have hm:=jiN l L
 repeat' first|exact hs|exact hc|simp only[SA,seval,rdB,jdP,jc9,List.drop_replicate,List.set_set]|simp only[hw]|simp only[hw2]|refine tT ?_|refine Cos.intro [] [] rfl ?_|refine And.intro ?_ ?_|exact tC|(refine tI ?_;intro hyp)|intro hyp0|omega
 ·simp only[jhs,decide_eq_false (by omega:¬l.length≤16),Bool.false_and]
 have hmm:(jal l L).length≤4611686018427387904:=by omega
 refine T.loop (fun k:Nat=>⟨[(0,.vec .cell L),(1,.vec .str l),(5,.vec .cell (L.map (jbJ l (jal l L)))),(6,.vec .str (jal l L)),(18,.int .i64 L.length),(19,.int .i64 k)],[]⟩) (fun k=>k≤L.length∧∀j,j<k→decide (jdt l (jal l L) (cAt L j).link=(cAt L j).link)=true) (fun k=>L.length-k) 0 ⟨by omega,fun j hj=>by omega⟩ (Cos.intro [] [] rfl (by (simp only[SA,seval,rdB,jdP,jc9,List.drop_replicate,List.set_set]);first|done|(repeat' apply And.intro)<;>first|rfl|omega|simp)) (fun k ⟨hk,hall⟩=>?_)
 by_cases hkl:k<L.length
 ·have hw:=jtA (l:=l) hkl
  have hw2:(jbJ l (jal l L) (L.getD k default)).link=jdt l (jal l L) (L.getD k default).link:=rfl
  have hcg:=jye hkl
  have hlm:(L.map (jbJ l (jal l L))).length=L.length:=by simp
  have hkm:k<(L.map (jbJ l (jal l L))).length:=by omega
  repeat' first|simp only[SA,seval,rdB,jdP,jc9,List.drop_replicate,List.set_set]|simp only[hw]|simp only[hw2]|refine tT ?_|refine Cos.intro [] [] rfl ?_|refine And.intro ?_ ?_|exact tC|(refine tI ?_;intro hyp)|intro hyp0|omega
  ·rw[jhs,jcj hkl (by rw[hcg];exact decide_eq_false hyp),Bool.and_false,Bool.false_and]
  ·exact⟨k+1,⟨by omega,jet (by rw[hcg];exact decide_eq_true hyp) hall⟩,by omega,(Cos.intro [] [] rfl (by (simp only[SA,seval,rdB,jdP,jc9,List.drop_replicate,List.set_set]);first|done|(repeat' apply And.intro)<;>first|rfl|omega|simp))⟩
 ·repeat' first|simp only[SA,seval,rdB,jdP,jc9,List.drop_replicate,List.set_set]|simp only[hw]|simp only[hw2]|refine tT ?_|refine Cos.intro [] [] rfl ?_|refine And.intro ?_ ?_|exact tC|(refine tI ?_;intro hyp)|intro hyp0|omega
  rw[jhs,jdl (n:=L.length) (k:=k) (by omega) hall,Bool.and_true,decide_eq_true (by omega:l.length≤16),Bool.true_and])
theorem jtC:Fresh Tryz.prog E0 43 sp_rlright:=Alias.fresh jtB (fun x=>rfl)
end
end Go.Proofs.YtcfkfgkndncanaaGreatDoor
