/- Texts of this claim, merged by a program of this claim: FLinks2. -/
import Derived.Test.YtcfkfgkndncanaaGreatDoorMs26
namespace Go.Proofs.YtcfkfgkndncanaaGreatDoor
set_option linter.unusedVariables false
set_option linter.unusedSimpArgs false
section
open Go.RowKit
set_option maxRecDepth 100000
set_option maxHeartbeats 4000000
theorem jCB {α:Type}{A L:List α}{k:Nat}{a:α}(hA:A.length=k) (h:k<L.length):(A++L.drop k).set k a=A++[a]++L.drop (k+1):=by
 rw[List.set_append_right _ _ (by omega),hA,Nat.sub_self,List.drop_eq_getElem_cons h,List.set_cons_zero]
 simp
theorem jtC {α:Type}{A L:List α}{k:Nat}{d:α}(hA:A.length=k):(A++L.drop k).getD k d=L.getD k d:=by
 rw[List.getD_eq_getElem?_getD,List.getD_eq_getElem?_getD,List.getElem?_append_right (by omega),hA,Nat.sub_self,List.getElem?_drop,Nat.add_zero]
theorem jml {l:List ByteArray}{v:Int}(h:¬v<1∧¬(l.length:Int)<v) (hb:jdg (l.getD (v-1).toNat ETy.str.dflt)=true):ja2 l v=l.getD (v-1).toNat ETy.str.dflt:=jo4 (by omega) hb
theorem jo5:∀(m:List ByteArray) (s:ByteArray),jaS m s<m.length∨jaS m s<0
 | [],s=>Or.inr (by simp[jaS])
 | x::m,s=>by
  have:=jo5 m s
  simp only[jaS]
  split
  ·simp
  ·simp only[List.length_cons]
   split<;>omega
abbrev jnX (L:List CD) (l:List ByteArray):List CV:=[.vec .cell L,.vec .str l]
abbrev jnY (L:List CD) (l:List ByteArray):Prop×Res:=(L.length≤60000∧l.length≤60000∧(∀s∈l,SLen s)∧(∀c∈L,0≤c.link∧c.link<65536),.ret (.tup [.vec .cell (L.map (jbo l (jah l L))),.vec .str (jah l L)]))
noncomputable def sp_lcanon:Spec:=spOf (α:=(List CD)×(List ByteArray)) (fun⟨L,l⟩=>jnX L l) fun⟨L,l⟩=>jnY L l
theorem jjc (L:List CD) (l:List ByteArray):sp_lcanon (jnX L l)=some (jnY L l):=jak _ injS (L,l)
theorem jwE:Fresh Tryz.prog E0 122 sp_lcanon:=Fresh.of fun⟨L,l⟩ hG=>TF.intro (V:=(VV [(24,conT [.sl .cell] sp_clone),(99,conF [.any] sp_lmay),(114,conF [.sl .str,.any] sp_sindex)] (.cons (jaa ja7) (Fresh.soundT jgB) (.cons (jaa jeA) (Fresh.soundF jqH) (.cons (jaa jbA) (Fresh.soundF jk2) GOk.nil))) 77 0)) jfX rfl rfl (by
 dsimp only[jnX,jnY]at hG ⊢
 obtain⟨hL,hl,hs,hc⟩:=hG
 repeat' first|simp only[SA,seval,rdB,jaf,jaR,jba,List.drop_replicate,List.set_set]|simp only[hw]|simp only[hw2]|simp only[hw3]|simp only[hw4]|refine tT ?_|refine Cos.intro [] [] rfl ?_|refine And.intro ?_ ?_|exact tC|(refine tI ?_;intro hyp)|intro hyp0|omega
 refine T.loop (fun k:Nat=>⟨[(1,.vec .str l),(6,.slice 0 0 6 L.length L.length),(7,.slice 1 0 1 (jah l (L.take k)).length (jah l (L.take k)).length),(14,.int .i64 L.length),(15,.int .i64 k)],[.seq .cell ((L.take k).map (jbo l (jah l L))++L.drop k),.seq .str (jah l (L.take k))]⟩) (fun k=>k≤L.length) (fun k=>L.length-k) 0 (by omega) (Cos.intro [0,99] [] rfl (by simp only[SA,seval,rdB,jaf,jaR,jba,List.drop_replicate,List.set_set];simp[jah,crs,crsL,jct])) (fun k hk=>?_)
 have hlen:(jah l (L.take k)).length≤60000:=by
  have:=jix l (L.take k)
  rw[List.length_take]at this
  omega
 have hml:((L.take k).map (jbo l (jah l L))).length=k:=by simp;omega
 have hal:((L.take k).map (jbo l (jah l L))++L.drop k).length=L.length:=by simp;omega
 by_cases hkl:k<L.length
 ·have hck:=hc _ (jcU hkl)
  have hw:((L.take k).map (jbo l (jah l L))++L.drop k).getD k default=L.getD k default:=jtC hml
  have hw2:∀a:CD,(((L.take k).map (jbo l (jah l L))++L.drop k).set k a).getD k default=a:=fun a=>jfY (by omega)
  have hts:((L.take k).map (jbo l (jah l L))++L.drop k).set k (jbo l (jah l L) (L.getD k default))=(L.take (k+1)).map (jbo l (jah l L))++L.drop (k+1):=by
   rw[jaW (jdi hkl),List.map_append,jCB hml hkl]
   rfl
  have hx:k<((L.take k).map (jbo l (jah l L))).length+(L.drop k).length:=by simp;omega
  have hw3:IntKind.u16.wrap (((jah l (L.take k)).length:Int)+1)=((jah l (L.take k)).length:Int)+1:=jpy (by omega)
  have hw4:∀s,IntKind.u16.wrap (jaS (jah l (L.take k)) s+1)=jaS (jah l (L.take k)) s+1:=fun s=>jpy (by have:=jdS (jah l (L.take k)) s;omega)
  have hpl:∀s,jaS (jah l (L.take k)) s<(jah l (L.take k)).length∨jaS (jah l (L.take k)) s<0:=fun s=>jo5 _ s
  repeat' first|exact hs _ (jhX (by omega))|exact hx|(have:=hpl (l.getD ((L.getD k default).link-1).toNat ETy.str.dflt);omega)|simp only[SA,seval,rdB,jaf,jaR,jba,List.drop_replicate,List.set_set]|simp only[hw]|simp only[hw2]|simp only[hw3]|simp only[hw4]|refine tT ?_|refine Cos.intro [] [] rfl ?_|refine And.intro ?_ ?_|exact tC|(refine tI ?_;intro hyp)|intro hyp0|omega
  ·have hb:ja2 l (L.getD k default).link=emptyS:=(jnQ (hyp.imp (fun h=>by omega) id)).trans jjG
   obtain⟨h1,h2⟩:=jtm (jdi hkl) hb
   refine⟨k+1,by omega,by omega,Cos.intro [0,1] [] rfl ?_⟩
   rw[h2]at hts
   rw[h1,←hts]
   (simp only[SA,seval,rdB,jaf,jaR,jba,List.drop_replicate,List.set_set]<;>exact tE)
  ·rename_i hh
   have hb:=jml hh.1 hh.2
   obtain⟨h1,h2⟩:=jvD (jdi hkl) hb (jjB hh.2) hyp
   refine⟨k+1,by omega,by omega,Cos.intro [0,3] [] rfl ?_⟩
   rw[h2]at hts
   rw[h1,←hts]
   (simp only[SA,seval,rdB,jaf,jaR,jba,List.drop_replicate,List.set_set]<;>exact tE)
  ·rename_i hh
   have hb:=jml hh.1 hh.2
   obtain⟨h1,h2⟩:=jvC (jdi hkl) hb (jjB hh.2) hyp
   refine⟨k+1,by omega,by omega,Cos.intro [0,1] [] rfl ?_⟩
   rw[h2]at hts
   rw[h1,←hts]
   (simp only[SA,seval,rdB,jaf,jaR,jba,List.drop_replicate,List.set_set]<;>exact tE)
 ·have e:L.take k=L:=List.take_of_length_le (by omega)
  have e2:L.drop k=[]:=List.drop_eq_nil_of_le (by omega)
  rw[e,e2,List.append_nil]
  have hlm:(L.map (jbo l (jah l L))).length=L.length:=by simp
  repeat' first|simp only[SA,seval,rdB,jaf,jaR,jba,List.drop_replicate,List.set_set]|simp only[hw]|simp only[hw2]|simp only[hw3]|simp only[hw4]|refine tT ?_|refine Cos.intro [0,1] [] rfl ?_|refine And.intro ?_ ?_|exact tC|(refine tI ?_;intro hyp)|intro hyp0|omega
  all_goals trace_state)
end
end Go.Proofs.YtcfkfgkndncanaaGreatDoor
