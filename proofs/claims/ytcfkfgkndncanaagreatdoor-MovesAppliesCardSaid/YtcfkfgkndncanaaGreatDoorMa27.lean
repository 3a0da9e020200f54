/- Texts of this claim, merged by a program of this claim: FLinks2. -/
import Derived.Test.YtcfkfgkndncanaaGreatDoorMa26
namespace Go.Proofs.YtcfkfgkndncanaaGreatDoor
set_option linter.unusedVariables false
set_option linter.unusedSimpArgs false
section
open Go.RowKit
set_option maxRecDepth 100000
set_option maxHeartbeats 4000000
theorem jBg {α:Type}{A L:List α}{k:Nat}{a:α}(hA:A.length=k) (h:k<L.length):(A++L.drop k).set k a=A++[a]++L.drop (k+1):=by
 rw[List.set_append_right _ _ (by omega),hA,Nat.sub_self,List.drop_eq_getElem_cons h,List.set_cons_zero]
 simp
theorem jtD {α:Type}{A L:List α}{k:Nat}{d:α}(hA:A.length=k):(A++L.drop k).getD k d=L.getD k d:=by
 rw[List.getD_eq_getElem?_getD,List.getD_eq_getElem?_getD,List.getElem?_append_right (by omega),hA,Nat.sub_self,List.getElem?_drop,Nat.add_zero]
theorem jmL {l:List ByteArray}{v:Int}(h:¬v<1∧¬(l.length:Int)<v) (hb:jdn (l.getD (v-1).toNat ETy.str.dflt)=true):jbf l v=l.getD (v-1).toNat ETy.str.dflt:=jpI (by omega) hb
theorem jpK:∀(m:List ByteArray) (s:ByteArray),jbd m s<m.length∨jbd m s<0
 | [],s=>Or.inr (by simp[jbd])
 | x::m,s=>by
  have:=jpK m s
  simp only[jbd]
  split
  ·simp
  ·simp only[List.length_cons]
   split<;>omega
abbrev jod (L:List CD) (l:List ByteArray):List CV:=[.vec .cell L,.vec .str l]
abbrev joe (L:List CD) (l:List ByteArray):Prop×Res:=(L.length≤60000∧l.length≤60000∧(∀s∈l,SLen s)∧(∀c∈L,0≤c.link∧c.link<65536),.ret (.tup [.vec .cell (L.map (jbJ l (jal l L))),.vec .str (jal l L)]))
noncomputable def sp_lcanon:Spec:=spOf (α:=(List CD)×(List ByteArray)) (fun⟨L,l⟩=>jod L l) fun⟨L,l⟩=>joe L l
theorem jjS (L:List CD) (l:List ByteArray):sp_lcanon (jod L l)=some (joe L l):=jaq _ injS (L,l)
theorem jwg:Fresh Tryz.prog E0 122 sp_lcanon:=Fresh.of fun⟨L,l⟩ hG=>TF.intro (V:=(VV [(24,conT [.sl .cell] sp_clone),(99,conF [.any] sp_lmay),(114,conF [.sl .str,.any] sp_sindex)] (.cons (jaa jbF) (Fresh.soundT jh1) (.cons (jaa jex) (Fresh.soundF jq9) (.cons (jaa jbW) (Fresh.soundF jlu) GOk.nil))) 77 0)) jfP rfl rfl (by
 dsimp only[jod,joe]at hG ⊢
 obtain⟨hL,hl,hs,hc⟩:=hG
 repeat' first|simp only[SA,seval,rdB,jaj,jbg,jbw,List.drop_replicate,List.set_set]|simp only[hw]|simp only[hw2]|simp only[hw3]|simp only[hw4]|refine tT ?_|refine Cos.intro [] [] rfl ?_|refine And.intro ?_ ?_|exact tC|(refine tI ?_;intro hyp)|intro hyp0|omega
 refine T.loop (fun k:Nat=>⟨[(1,.vec .str l),(6,.slice 0 0 6 L.length L.length),(7,.slice 1 0 1 (jal l (L.take k)).length (jal l (L.take k)).length),(14,.int .i64 L.length),(15,.int .i64 k)],[.seq .cell ((L.take k).map (jbJ l (jal l L))++L.drop k),.seq .str (jal l (L.take k))]⟩) (fun k=>k≤L.length) (fun k=>L.length-k) 0 (by omega) (Cos.intro [0,99] [] rfl (by simp only[SA,seval,rdB,jaj,jbg,jbw,List.drop_replicate,List.set_set];simp[jal,crs,crsL,jcr])) (fun k hk=>?_)
 have hlen:(jal l (L.take k)).length≤60000:=by
  have:=jiN l (L.take k)
  rw[List.length_take]at this
  omega
 have hml:((L.take k).map (jbJ l (jal l L))).length=k:=by simp;omega
 have hal:((L.take k).map (jbJ l (jal l L))++L.drop k).length=L.length:=by simp;omega
 by_cases hkl:k<L.length
 ·have hck:=hc _ (jdN hkl)
  have hw:((L.take k).map (jbJ l (jal l L))++L.drop k).getD k default=L.getD k default:=jtD hml
  have hw2:∀a:CD,(((L.take k).map (jbJ l (jal l L))++L.drop k).set k a).getD k default=a:=fun a=>jdo (by omega)
  have hts:((L.take k).map (jbJ l (jal l L))++L.drop k).set k (jbJ l (jal l L) (L.getD k default))=(L.take (k+1)).map (jbJ l (jal l L))++L.drop (k+1):=by
   rw[jbC (jcW hkl),List.map_append,jBg hml hkl]
   rfl
  have hx:k<((L.take k).map (jbJ l (jal l L))).length+(L.drop k).length:=by simp;omega
  have hw3:IntKind.u16.wrap (((jal l (L.take k)).length:Int)+1)=((jal l (L.take k)).length:Int)+1:=jnc (by omega)
  have hw4:∀s,IntKind.u16.wrap (jbd (jal l (L.take k)) s+1)=jbd (jal l (L.take k)) s+1:=fun s=>jnc (by have:=jdm (jal l (L.take k)) s;omega)
  have hpl:∀s,jbd (jal l (L.take k)) s<(jal l (L.take k)).length∨jbd (jal l (L.take k)) s<0:=fun s=>jpK _ s
  repeat' first|exact hs _ (jlv (by omega))|exact hx|(have:=hpl (l.getD ((L.getD k default).link-1).toNat ETy.str.dflt);omega)|simp only[SA,seval,rdB,jaj,jbg,jbw,List.drop_replicate,List.set_set]|simp only[hw]|simp only[hw2]|simp only[hw3]|simp only[hw4]|refine tT ?_|refine Cos.intro [] [] rfl ?_|refine And.intro ?_ ?_|exact tC|(refine tI ?_;intro hyp)|intro hyp0|omega
  ·have hb:jbf l (L.getD k default).link=emptyS:=(jn6 (hyp.imp (fun h=>by omega) id)).trans jke
   obtain⟨h1,h2⟩:=jto (jcW hkl) hb
   refine⟨k+1,by omega,by omega,Cos.intro [0,1] [] rfl ?_⟩
   rw[h2]at hts
   rw[h1,←hts]
   (simp only[SA,seval,rdB,jaj,jbg,jbw,List.drop_replicate,List.set_set]<;>exact tE)
  ·rename_i hh
   have hb:=jmL hh.1 hh.2
   obtain⟨h1,h2⟩:=jvy (jcW hkl) hb (jh4 hh.2) hyp
   refine⟨k+1,by omega,by omega,Cos.intro [0,3] [] rfl ?_⟩
   rw[h2]at hts
   rw[h1,←hts]
   (simp only[SA,seval,rdB,jaj,jbg,jbw,List.drop_replicate,List.set_set]<;>exact tE)
  ·rename_i hh
   have hb:=jmL hh.1 hh.2
   obtain⟨h1,h2⟩:=jvx (jcW hkl) hb (jh4 hh.2) hyp
   refine⟨k+1,by omega,by omega,Cos.intro [0,1] [] rfl ?_⟩
   rw[h2]at hts
   rw[h1,←hts]
   (simp only[SA,seval,rdB,jaj,jbg,jbw,List.drop_replicate,List.set_set]<;>exact tE)
 ·have e:L.take k=L:=List.take_of_length_le (by omega)
  have e2:L.drop k=[]:=List.drop_eq_nil_of_le (by omega)
  rw[e,e2,List.append_nil]
  have hlm:(L.map (jbJ l (jal l L))).length=L.length:=by simp
  repeat' first|simp only[SA,seval,rdB,jaj,jbg,jbw,List.drop_replicate,List.set_set]|simp only[hw]|simp only[hw2]|simp only[hw3]|simp only[hw4]|refine tT ?_|refine Cos.intro [0,1] [] rfl ?_|refine And.intro ?_ ?_|exact tC|(refine tI ?_;intro hyp)|intro hyp0|omega
  all_goals trace_state)
end
end Go.Proofs.YtcfkfgkndncanaaGreatDoor
