/- Texts of this claim, merged by a program of this claim: FLinks. -/
import Derived.Test.YtienkkicehmchaaGreatDoorDl13
import Derived.Test.YtienkkicehmchaaGreatDoorDl14
import Derived.Test.YtienkkicehmchaaGreatDoorDl6
import Derived.Test.YtienkkicehmchaaGreatDoorDl7
namespace Go.Proofs.YtienkkicehmchaaGreatDoor
open Cos renaming intro→qaa
open And renaming intro→qab
open Bool renaming false_and→qac,decide_and→qaf,and_false→qag,and_true→qai,true_and→qaj
open List renaming replicate→qad,take_of_length_le→qae,length_take→qak
open T renaming loop→qah
noncomputable section
set_option linter.unusedVariables false
set_option linter.unusedSimpArgs false
section
open Go.RowKit
set_option maxRecDepth 100000
set_option maxHeartbeats 4000000
theorem jkw (s:ByteArray) (i:Nat):(jab s).getD i 0=((s.data.toList.getD i 0).toNat:Int):=by
 simp only[jab,List.getD_eq_getElem?_getD,List.getElem?_map]
 cases s.data.toList[i]?<;>rfl
def chrB (s:ByteArray) (i:Nat):Bool:=decide (33≤(s.data.toList.getD i 0).toNat)&&decide ((s.data.toList.getD i 0).toNat≤126)
theorem jeL (s:ByteArray):jcs s=(decide (1≤s.size)&&decide (s.size≤64)&&(List.range s.size).all (chrB s)):=rfl
abbrev SLen (s:ByteArray):Prop:=s.size≤9223372036854775807
abbrev q_lmay (s:ByteArray):QA:=([.str s],SLen s,.ret (.bool (jcs s)))
def sp_lmay:=spQ (u1 q_lmay)
theorem jkx:W1 (hA sp_lmay) q_lmay:=w1 (aA rfl)
theorem jw0:Al 128 sp_lmay:=ofA (u1 q_lmay) fun s hG=>tfi .nil 0 jfP (by
 dsimp only[u1,q_lmay]at hG ⊢
 have zc:=Hk.mk (qab @List.drop_replicate.{0} @List.set_set.{0})
 repeat' first|refine tU ?_|refine qab ?_ ?_|(refine tI ?_;intro hyp)|intro hyp0|exact tZ|omega
 refine qah (fun k:Nat=>⟨[(0,.str s),(5,.int .i64 s.size),(6,.int .i64 k)],[]⟩) (fun k=>k≤s.size∧∀j,j<k→chrB s j=true) (fun k=>s.size-k) 0 ⟨by omega,fun j hj=>by omega⟩ (qaa [] [] rfl (by exact tG)) (fun k ⟨hk,hall⟩=>?_)
 have hw:=jkw s k
 repeat' first|refine tU ?_|refine qaa [] [] rfl ?_|refine qab ?_ ?_|(refine tI ?_;intro hyp)|intro hyp0|exact tZ|omega
 ·rw[jeL,ja2 (by omega:k<s.size) (by simp only[chrB,HB,ne_eq,reduceCtorEq];omega),qag]
 ·exact⟨k+1,⟨by omega,jcU (by simp only[chrB,HB,ne_eq,reduceCtorEq];omega) hall⟩,by omega,(qaa [] [] rfl (by exact tG))⟩
 ·rw[jeL,jbN (n:=s.size) (k:=k) (by omega) hall,qai]
  rw[←qaf,←qaf]
  exact decide_eq_decide.2 (by omega))
theorem jsv:Fre 128 sp_lmay:=ofF (u1 q_lmay) jw0 fun _=>rfl
abbrev q_rlmay (s:ByteArray):QA:=([.str s],SLen s,.ret (.bool (jcs s)))
def sp_rlmay:=spQ (u1 q_rlmay)
theorem jn8:W1 (hA sp_rlmay) q_rlmay:=w1 (aA rfl)
theorem juU:Al 119 sp_rlmay:=ofA (u1 q_rlmay) fun s hG=>tfi .nil 0 jmC (by
 dsimp only[u1,q_rlmay]at hG ⊢
 have zc:=Hk.mk (qab @List.drop_replicate.{0} @List.set_set.{0})
 repeat' first|refine tU ?_|refine qaa [] [] rfl ?_|refine qab ?_ ?_|(refine tI ?_;intro hyp)|intro hyp0|exact tZ|omega
 ·rw[jeL,←qaf,decide_eq_false (by omega),qac]
 refine qah (fun k:Nat=>⟨[(0,.str s),(3,.int .i64 k)],[]⟩) (fun k=>k≤s.size∧∀j,j<k→chrB s j=true) (fun k=>s.size-k) 0 ⟨by omega,fun j hj=>by omega⟩ (qaa [] [] rfl (by exact tG)) (fun k ⟨hk,hall⟩=>?_)
 have hw:=jkw s k
 repeat' first|refine tU ?_|refine qaa [] [] rfl ?_|refine qab ?_ ?_|(refine tI ?_;intro hyp)|intro hyp0|exact tZ|omega
 ·rw[jeL,ja2 (by omega:k<s.size) (by simp only[chrB,HB,ne_eq,reduceCtorEq];omega),qag]
 ·exact⟨k+1,⟨by omega,jcU (by simp only[chrB,HB,ne_eq,reduceCtorEq];omega) hall⟩,by omega,(qaa [] [] rfl (by exact tG))⟩
 ·rw[jeL,jbN (n:=s.size) (k:=k) (by omega) hall,qai,←qaf,decide_eq_true (by omega)])
theorem juV:Fre 119 sp_rlmay:=ofF (u1 q_rlmay) juU fun _=>rfl
abbrev q_sindex (l:List ByteArray) (s:ByteArray):QA:=([.vec .str l,.str s],l.length≤4611686018427387904,.ret (.int .i64 (jal l s)))
def sp_sindex:=spQ (u2 q_sindex)
theorem jeM:W2 (hA sp_sindex) q_sindex:=w2 (aA rfl)
theorem jsw:Al 157 sp_sindex:=ofA (u2 q_sindex) fun⟨l,s⟩ hG=>tfi .nil 0 ja1 (by
 dsimp only[u2,q_sindex]at hG ⊢
 have zc:=Hk.mk (qab @List.drop_replicate.{0} @List.set_set.{0})
 repeat' first|refine tU ?_|refine qab ?_ ?_|(refine tI ?_;intro hyp)|intro hyp0|exact tZ|omega
 refine qah (fun k:Nat=>⟨[(0,.vec .str l),(1,.str s),(7,.int .i64 l.length),(8,.int .i64 k)],[]⟩) (fun k=>k≤l.length∧∀(j:Nat) (x:ByteArray),j<k→l[j]?=some x→jdp x s=false) (fun k=>l.length-k) 0 ⟨by omega,fun j x hj=>by omega⟩ (qaa [] [] rfl (by exact tG)) (fun k ⟨hk,hall⟩=>?_)
 repeat' first|refine tU ?_|refine qaa [] [] rfl ?_|refine qab ?_ ?_|(refine tI ?_;intro hyp)|intro hyp0|exact tZ|omega
 ·exact (jeB l s k hall _ (jax (d:=ETy.str.dflt) (by omega)) (jaC.2 (hyp.symm))).symm
 ·refine⟨k+1,⟨by omega,fun j x hj hx=>?_⟩,by omega,(qaa [] [] rfl (by exact tG))⟩
  by_cases e:j=k
  ·subst e
   rw[jax (d:=ETy.str.dflt) (by omega)]at hx
   cases hx
   exact jd2.2 (fun q=>hyp (q.symm))
  ·exact hall j x (by omega) hx
 ·exact (ji2 l s (fun j x hx=>hall j x (by have:=(List.getElem?_eq_some_iff.1 hx).1;omega) hx)).symm)
theorem jjn:Fre 157 sp_sindex:=ofF (u2 q_sindex) jsw fun _=>rfl
abbrev q_rplace (l:List ByteArray) (s:ByteArray):QA:=([.vec .str l,.str s],l.length≤4611686018427387904,.ret (.int .i64 (jal l s)))
def sp_rplace:=spQ (u2 q_rplace)
theorem jhC:W2 (hA sp_rplace) q_rplace:=w2 (aA rfl)
theorem jsx:Al 122 sp_rplace:=ofA (u2 q_rplace) fun⟨l,s⟩ hG=>tfi .nil 0 jfQ (by
 dsimp only[u2,q_rplace]at hG ⊢
 have zc:=Hk.mk (qab @List.drop_replicate.{0} @List.set_set.{0})
 repeat' first|refine tU ?_|refine qab ?_ ?_|(refine tI ?_;intro hyp)|intro hyp0|exact tZ|omega
 refine qah (fun k:Nat=>⟨[(0,.vec .str l),(1,.str s),(5,.int .i64 k)],[]⟩) (fun k=>k≤l.length∧∀(j:Nat) (x:ByteArray),j<k→l[j]?=some x→jdp x s=false) (fun k=>l.length-k) 0 ⟨by omega,fun j x hj=>by omega⟩ (qaa [] [] rfl (by exact tG)) (fun k ⟨hk,hall⟩=>?_)
 repeat' first|refine tU ?_|refine qaa [] [] rfl ?_|refine qab ?_ ?_|(refine tI ?_;intro hyp)|intro hyp0|exact tZ|omega
 ·exact (jeB l s k hall _ (jax (d:=ETy.str.dflt) (by omega)) (jaC.2 (hyp))).symm
 ·refine⟨k+1,⟨by omega,fun j x hj hx=>?_⟩,by omega,(qaa [] [] rfl (by exact tG))⟩
  by_cases e:j=k
  ·subst e
   rw[jax (d:=ETy.str.dflt) (by omega)]at hx
   cases hx
   exact jd2.2 (fun q=>hyp (q))
  ·exact hall j x (by omega) hx
 ·exact (ji2 l s (fun j x hx=>hall j x (by have:=(List.getElem?_eq_some_iff.1 hx).1;omega) hx)).symm)
theorem jmD:Fre 122 sp_rplace:=ofF (u2 q_rplace) jsx fun _=>rfl
abbrev q_scontains (l:List ByteArray) (s:ByteArray):QA:=([.vec .str l,.str s],l.length≤4611686018427387904,.ret (.bool (decide (0≤jal l s))))
def sp_scontains:=spQ (u2 q_scontains)
theorem jjo:W2 (hA sp_scontains) q_scontains:=w2 (aA rfl)
theorem jmE:Al 129 sp_scontains:=ofA (u2 q_scontains) fun⟨l,s⟩ hG=>tfi (.f [.sl .str,.any] ja1 jjn .nil) 0 jbH (by
 dsimp only[u2,q_scontains]at hG ⊢
 have zc:=Hk.mk (qab @jeM (qab @List.drop_replicate.{0} @List.set_set.{0}))
 repeat' first|refine tU ?_|refine qaa [] [] rfl ?_|refine qab ?_ ?_|(refine tI ?_;intro hyp)|intro hyp0|exact tZ|omega)
theorem jmF:Fre 129 sp_scontains:=ofF (u2 q_scontains) jmE fun _=>rfl
abbrev q_rssame (L M:List ByteArray):QA:=([.vec .str L,.vec .str M],L.length≤4611686018427387904∧M.length≤4611686018427387904,.ret (.bool (decide (L=M))))
def sp_rssame:=spQ (u2 q_rssame)
theorem jhD:W2 (hA sp_rssame) q_rssame:=w2 (aA rfl)
theorem jsy:Al 34 sp_rssame:=ofA (u2 q_rssame) fun⟨L,M⟩ hG=>tfi .nil 0 jhb (by
 dsimp only[u2,q_rssame]at hG ⊢
 have zc:=Hk.mk (qab @List.drop_replicate.{0} @List.set_set.{0})
 repeat' first|refine tU ?_|refine qaa [] [] rfl ?_|refine qab ?_ ?_|(refine tI ?_;intro hyp)|intro hyp0|exact tZ|omega
 ·exact (decide_eq_false fun e=>by subst e;omega).symm
 ·refine qah (fun k:Nat=>⟨[(0,.vec .str L),(1,.vec .str M),(12,.int .i64 L.length),(13,.int .i64 k)],[]⟩) (fun k=>k≤L.length∧∀j,j<k→L[j]?=M[j]?) (fun k=>L.length-k) 0 ⟨by omega,fun j hj=>by omega⟩ (qaa [] [] rfl (by exact tG)) (fun k ⟨hk,hall⟩=>?_)
  repeat' first|refine tU ?_|refine qaa [] [] rfl ?_|exact⟨k+1,⟨by omega,jdD (by omega) (by omega) hyp hall⟩,by omega,(qaa [] [] rfl (by exact tG))⟩|refine qab ?_ ?_|(refine tI ?_;intro hyp)|intro hyp0|exact tZ|omega
  ·exact (decide_eq_false fun e=>by subst e;exact hyp rfl).symm
  ·exact (decide_eq_true (je2 (by omega) (by omega) hall)).symm)
theorem jmG:Fre 34 sp_rssame:=ofF (u2 q_rssame) jsy fun _=>rfl
abbrev q_sequal (L M:List ByteArray):QA:=([.vec .str L,.vec .str M],L.length≤4611686018427387904∧M.length≤4611686018427387904,.ret (.bool (decide (L=M))))
def sp_sequal:=spQ (u2 q_sequal)
theorem jmH:W2 (hA sp_sequal) q_sequal:=w2 (aA rfl)
theorem jsz:Al 174 sp_sequal:=ofA (u2 q_sequal) fun⟨L,M⟩ hG=>tfi .nil 0 jco (by
 dsimp only[u2,q_sequal]at hG ⊢
 have zc:=Hk.mk (qab @List.drop_replicate.{0} @List.set_set.{0})
 repeat' first|refine tU ?_|refine qaa [] [] rfl ?_|refine qab ?_ ?_|(refine tI ?_;intro hyp)|intro hyp0|exact tZ|omega
 ·exact (decide_eq_false fun e=>by subst e;omega).symm
 ·refine qah (fun k:Nat=>⟨[(0,.vec .str L),(1,.vec .str M),(12,.int .i64 L.length),(13,.int .i64 k)],[]⟩) (fun k=>k≤L.length∧∀j,j<k→L[j]?=M[j]?) (fun k=>L.length-k) 0 ⟨by omega,fun j hj=>by omega⟩ (qaa [] [] rfl (by exact tG)) (fun k ⟨hk,hall⟩=>?_)
  repeat' first|refine tU ?_|refine qaa [] [] rfl ?_|exact⟨k+1,⟨by omega,jdD (by omega) (by omega) hyp hall⟩,by omega,(qaa [] [] rfl (by exact tG))⟩|refine qab ?_ ?_|(refine tI ?_;intro hyp)|intro hyp0|exact tZ|omega
  ·exact (decide_eq_false fun e=>by subst e;exact hyp rfl).symm
  ·exact (decide_eq_true (je2 (by omega) (by omega) hall)).symm)
theorem jsA:Fre 174 sp_sequal:=ofF (u2 q_sequal) jsz fun _=>rfl
theorem jeN {l:List ByteArray}{i:Nat}(h:i<l.length):l.getD i ETy.str.dflt∈l:=List.mem_of_getElem? (jax h)
theorem jmI {l:List ByteArray}{v:Int}(h:¬v=0∧¬(l.length:Int)<v) (hb:jcs (l.getD (v-1).toNat ETy.str.dflt)=true):jam l v=l.getD (v-1).toNat ETy.str.dflt:=by
 unfold jam
 rw[if_neg (by omega),show sAt l (v-1).toNat=l.getD (v-1).toNat ETy.str.dflt from rfl,if_pos hb]
theorem jlG {l:List ByteArray}{v:Int}(h:(v=0∨(l.length:Int)<v)∨jcs (l.getD (v-1).toNat ETy.str.dflt)=false):jam l v=bs []:=by
 unfold jam
 by_cases e:v=0∨(l.length:Int)<v
 ·rw[if_pos e];rfl
 ·rw[if_neg e,show sAt l (v-1).toNat=l.getD (v-1).toNat ETy.str.dflt from rfl,if_neg (by rw[h.resolve_left e];decide)];rfl
abbrev q_rleads (l:List ByteArray) (v:Int):QA:=([.vec .str l,.int .u16 v],l.length≤1000000∧(0≤v∧v<65536)∧(∀s∈l,SLen s),.ret (.str (jam l v)))
def sp_rleads:=spQ (u2 q_rleads)
theorem jhE:W2 (hA sp_rleads) q_rleads:=w2 (aA rfl)
theorem jsB:Al 121 sp_rleads:=ofA (u2 q_rleads) fun⟨l,v⟩ hG=>tfi (.f [.any] jmC juV .nil) 0 jfR (by
 dsimp only[u2,q_rleads]at hG ⊢
 have zc:=Hk.mk (qab @jn8 (qab @List.drop_replicate.{0} @List.set_set.{0}))
 obtain⟨hl,hv,hs⟩:=hG
 have hw:1≤v→IntKind.u16.wrap (v-1)=v-1:=fun h=>jnL (by omega)
 by_cases h0:v=0
 ·subst h0
  repeat' first|refine tU ?_|refine qaa [] [] rfl ?_|refine qab ?_ ?_|(refine tI ?_;intro hyp)|intro hyp0|exact tZ|omega
  ·exact (jlG (Or.inl (Or.inl rfl))).symm
 ·have hw:=hw (by omega)
  repeat' first|refine tU ?_|refine qaa [] [] rfl ?_|refine qab ?_ ?_|(refine tI ?_;intro hyp)|intro hyp0|exact tZ|omega
  ·exact hs _ (jeN (by omega))
  ·exact (jlG hyp).symm
  ·exact (jmI hyp.1 hyp.2).symm)
theorem jmJ:Fre 121 sp_rleads:=ofF (u2 q_rleads) jsB fun _=>rfl
theorem jqy {l:List ByteArray}{k:Nat}(h:jcs (l.getD k ETy.str.dflt)=true∧¬0≤jal (l.take k) (l.getD k ETy.str.dflt)):jgk l k=true:=by
 show (jcs (l.getD k ETy.str.dflt) && !decide (0≤jal (l.take k) (l.getD k ETy.str.dflt)))=true
 rw[h.1,decide_eq_false h.2];rfl
theorem jsC {l:List ByteArray}{k:Nat}(h:jcs (l.getD k ETy.str.dflt)=false∨0≤jal (l.take k) (l.getD k ETy.str.dflt)):jgk l k=false:=by
 show (jcs (l.getD k ETy.str.dflt) && !decide (0≤jal (l.take k) (l.getD k ETy.str.dflt)))=false
 rcases h with h|h
 ·rw[h,qac]
 ·rw[decide_eq_true h];simp
theorem ja6 {L:List CD}{k:Nat}(h:k<L.length):L[k]?=some (L.getD k default):=jax h
theorem jpg {m:Nat}{L:List CD}{k:Nat}{t:Int}(hk:k<L.length) (h:jd3 m (L.take k)=some t) (hn:¬(t+1<(L.getD k default).link∨(m:Int)<(L.getD k default).link)):jd3 m (L.take (k+1))=some (max t (L.getD k default).link):=by
 rw[jar (ja6 hk),jb4,h]
 exact if_neg hn
theorem jw1 {m:Nat}{L:List CD}{k:Nat}{t:Int}(hk:k<L.length) (h:jd3 m (L.take k)=some t) (hn:t+1<(L.getD k default).link∨(m:Int)<(L.getD k default).link):jd3 m L=none:=by
 rw[←List.take_append_drop (k+1) L]
 refine jqj m _ _ ?_
 rw[jar (ja6 hk),jb4,h]
 exact if_pos hn
theorem juW {L:List CD}{l:List ByteArray}(h:jd3 l.length L=none):jb1 L l=false:=by
 simp[jb1,h]
theorem jaV {L:List CD}{k:Nat}(h:k<L.length):L.getD k default∈L:=List.mem_of_getElem? (jax h)
abbrev q_lright (L:List CD) (l:List ByteArray):QA:=([.vec .cell L,.vec .str l],L.length≤1000000∧l.length≤4611686018427387904∧(∀s∈l,SLen s)∧(∀c∈L,0≤c.link∧c.link<65536),.ret (.bool (jb1 L l)))
def sp_lright:=spQ (u2 q_lright)
theorem jmK:W2 (hA sp_lright) q_lright:=w2 (aA rfl)
theorem jsD:Al 93 sp_lright:=ofA (u2 q_lright) fun⟨L,l⟩ hG=>tfi (.f [.any] jfP jsv (.f [.sl .str,.any] jbH jmF .nil)) 0 jgz (by
 dsimp only[u2,q_lright]at hG ⊢
 have zc:=Hk.mk (qab @jkx (qab @jjo (qab @List.drop_replicate.{0} @List.set_set.{0})))
 obtain⟨hL,hl,hs,hc⟩:=hG
 repeat' first|refine tU ?_|refine qaa [] [] rfl ?_|refine qab ?_ ?_|(refine tI ?_;intro hyp)|intro hyp0|exact tZ|omega
 ·simp only[jb1,decide_eq_false (by omega:¬l.length≤16),qac]
 refine qah (fun k:Nat=>⟨[(0,.vec .cell L),(1,.vec .str l),(14,.vec .str l),(15,.int .i64 l.length),(16,.int .i64 k)],[]⟩) (fun k=>k≤l.length∧∀j,j<k→jgk l j=true) (fun k=>l.length-k) 0 ⟨by omega,fun j hj=>by omega⟩ (qaa [] [] rfl (by exact tG)) (fun k ⟨hk,hall⟩=>?_)
 repeat' first|refine tU ?_|refine qaa [] [] rfl ?_|refine qab ?_ ?_|(refine tI ?_;intro hyp)|intro hyp0|exact tZ|omega
 ·exact hs _ (jeN (by omega))
 ·rw[qak];omega
 ·rw[jb1,ja2 (by omega:k<l.length) (jsC hyp),qag,qac]
 ·exact⟨k+1,⟨by omega,jcU (jqy hyp) hall⟩,by omega,(qaa [] [] rfl (by exact tG))⟩
 have hall:=fun j (h:j<l.length)=>hall j (by omega)
 refine qah (fun q:Nat×Int=>⟨[(1,.vec .str l),(7,.int .i64 q.2),(32,.vec .cell L),(33,.int .i64 L.length),(34,.int .i64 q.1)],[]⟩) (fun q=>q.1≤L.length∧(0≤q.2∧q.2<65536)∧jd3 l.length (L.take q.1)=some q.2) (fun q=>L.length-q.1) (0,0) ⟨by omega,by omega,rfl⟩ (qaa [] [] rfl (by exact tG)) (fun⟨k,t⟩ ⟨hk,ht,htop⟩=>?_)
 dsimp only at hk ht htop ⊢
 have hck:k<L.length→0≤(L.getD k default).link∧(L.getD k default).link<65536:=fun h=>hc _ (jaV h)
 by_cases hkl:k<L.length
 ·have hck:=hck hkl
  repeat' first|refine tU ?_|refine qaa [] [] rfl ?_|refine qab ?_ ?_|(refine tI ?_;intro hyp)|intro hyp0|exact tZ|omega
  ·exact (juW (jw1 hkl htop (by omega))).symm
  ·exact⟨(k+1,(L.getD k default).link),⟨by omega,hck,by rw[jpg hkl htop (by omega)];congr 1;omega⟩,by simp only;omega,(qaa [] [] rfl (by exact tG))⟩
  ·exact⟨(k+1,t),⟨by omega,ht,by rw[jpg hkl htop (by omega)];congr 1;omega⟩,by simp only;omega,(qaa [] [] rfl (by exact tG))⟩
 ·have e:L.take k=L:=qae (by omega)
  rw[e]at htop
  repeat' first|refine tU ?_|refine qaa [] [] rfl ?_|refine qab ?_ ?_|(refine tI ?_;intro hyp)|intro hyp0|exact tZ|omega
  ·have ha:(List.range l.length).all (jgk l)=true:=List.all_eq_true.2 fun j hj=>hall j (List.mem_range.1 hj)
   rw[jb1,htop,decide_eq_true (by omega:l.length≤16),ha,qaj,qaj]
   exact decide_eq_decide.2 ⟨fun e=>by rw[e],fun e=>Option.some.inj e⟩)
theorem jsE:Fre 93 sp_lright:=ofF (u2 q_lright) jsD fun _=>rfl
theorem jqz {l:List ByteArray}{L:List CD}{k:Nat}(h:k<L.length):jac l (L.take (k+1))=jbf l (jac l (L.take k)) (L.getD k default):=by
 rw[jar (ja6 h),jaK]
theorem jih:bs []=emptyS:=rfl
theorem jd9 {α:Type}{M:List α}{k:Nat}{a d:α}(h:k<M.length):(M.set k a).getD k d=a:=by
 rw[List.getD_eq_getElem?_getD,List.getElem?_set_self h]
 rfl
theorem jyx {α:Type}{A:List α}{n k:Nat}{a d:α}(hA:A.length=k) (h:k<n):(A++qad (n-k) d).set k a=A++[a]++qad (n-(k+1)) d:=by
 rw[List.set_append_right _ _ (by omega),hA,Nat.sub_self,show n-k=n-(k+1)+1 by omega,List.replicate_succ,List.set_cons_zero]
 simp
abbrev q_rcanon (L:List CD) (l:List ByteArray):QA:=([.vec .cell L,.vec .str l],L.length≤60000∧l.length≤60000∧(∀s∈l,SLen s)∧(∀c∈L,0≤c.link∧c.link<65536),.ret (.tup [.vec .cell (L.map (jaF l (jac l L))),.vec .str (jac l L)]))
def sp_rcanon:=spQ (u2 q_rcanon)
theorem jmL:W2 (hA sp_rcanon) q_rcanon:=w2 (aA rfl)
theorem jsF:Fre 86 sp_rcanon:=ofT (u2 q_rcanon) fun⟨L,l⟩ hG=>tfi (.f [.sl .str,.any] jfR jmJ (.f [.sl .str,.any] jfQ jmD .nil)) 0 jjm (by
 dsimp only[u2,q_rcanon]at hG ⊢
 have zc:=Hk.mk (qab @jhE (qab @jhC (qab @List.drop_replicate.{0} @List.set_set.{0})))
 obtain⟨hL,hl,hs,hc⟩:=hG
 repeat' first|refine tU ?_|refine qaa [] [] rfl ?_|refine qab ?_ ?_|(refine tI ?_;intro hyp)|intro hyp0|exact tZ|omega
 refine qah (fun k:Nat=>⟨[(0,.vec .cell L),(1,.vec .str l),(6,.slice 0 0 1 (jac l (L.take k)).length (jac l (L.take k)).length),(7,.int .i64 k)],[.seq .str (jac l (L.take k))]⟩) (fun k=>k≤L.length) (fun k=>L.length-k) 0 (by omega) (qaa [0] [] rfl (by simp only[PB,SAM,seval,rdB,Hk.out zc];simp[jac])) (fun k hk=>?_)
 have hlen:(jac l (L.take k)).length≤60000:=by
  have:=jg2 l (L.take k)
  rw[qak]at this
  omega
 have hck:k<L.length→0≤(L.getD k default).link∧(L.getD k default).link<65536:=fun h=>hc _ (jaV h)
 by_cases hkl:k<L.length
 ·have hck:=hck hkl
  have hst:=jqz (l:=l) hkl
  repeat' first|exact hs|refine tU ?_|refine qaa [] [] rfl ?_|refine qab ?_ ?_|(refine tI ?_;intro hyp)|intro hyp0|exact tZ|omega
  ·refine⟨k+1,by omega,by omega,qaa [2] [] rfl ?_⟩
   rw[hst,jbf,if_pos (by rw[←jih];exact hyp)]
   simp only[PB,SAM,seval,rdB,Hk.out zc]
   simp
  ·refine⟨k+1,by omega,by omega,qaa [0] [] rfl ?_⟩
   rw[hst,jbf,if_neg (by rw[←jih];exact fun q=>hyp.elim q.1 (fun w=>w q.2))]
   simp only[PB,SAM,seval,rdB,Hk.out zc]
   simp
 ·have e:L.take k=L:=qae (by omega)
  rw[e]
  repeat' first|refine tU ?_|refine qaa [] [] rfl ?_|refine qab ?_ ?_|(refine tI ?_;intro hyp)|intro hyp0|exact tZ|omega
  rw[e]at hlen
  refine qah (fun k:Nat=>⟨[(0,.vec .cell L),(1,.vec .str l),(6,.slice 0 0 1 (jac l L).length (jac l L).length),(9,.slice 1 0 6 L.length L.length),(43,.int .i64 L.length),(44,.int .i64 k)],[.seq .str (jac l L),.seq .cell ((L.take k).map (jaF l (jac l L))++qad (L.length-k) default)]⟩) (fun k=>k≤L.length) (fun k=>L.length-k) 0 (by omega) (qaa [0,1] [] rfl (by simp only[PB,SAM,seval,rdB,Hk.out zc];simp)) (fun k hk=>?_)
  have hml:((L.take k).map (jaF l (jac l L))).length=k:=by simp;omega
  by_cases hkl:k<L.length
  ·have hck:=hc _ (jaV hkl)
   have hn:=jr5 l (jac l L) (L.getD k default).link
   have hw:∀a:CD,(((L.take k).map (jaF l (jac l L))++qad (L.length-k) default).set k a).getD k default=a:=fun a=>jd9 (by simp;omega)
   have hts:((L.take k).map (jaF l (jac l L))++qad (L.length-k) default).set k (jaF l (jac l L) (L.getD k default))=(L.take (k+1)).map (jaF l (jac l L))++qad (L.length-(k+1)) default:=by
    rw[jar (ja6 hkl),List.map_append,jyx (by simp;omega) hkl]
    rfl
   by_cases hb:jam l (L.getD k default).link=bs []
   ·have hcn:jaF l (jac l L) (L.getD k default)={ L.getD k default with link:=0 }:=by
     rw[jaF,jb2,if_pos (hb.trans jih)]
     rfl
    rw[hcn]at hts
    repeat' first|exact hs|exact absurd hyp hb|exact absurd hb hyp|refine tU ?_|refine qaa [] [] rfl ?_|refine qab ?_ ?_|(refine tI ?_;intro hyp)|intro hyp0|exact tZ|omega
    refine⟨k+1,by omega,by omega,qaa [0,1] [] rfl ?_⟩
    rw[hts]
    simp only[PB,SAM,seval,rdB,Hk.out zc]
    simp
   ·have hcn:jb2 l (jac l L) (L.getD k default).link=jal (jac l L) (jam l (L.getD k default).link)+1:=if_neg hb
    have hcc:jaF l (jac l L) (L.getD k default)={ L.getD k default with link:=jal (jac l L) (jam l (L.getD k default).link)+1 }:=by
     rw[jaF,hcn]
     rfl
    have hw2:IntKind.u16.wrap (jal (jac l L) (jam l (L.getD k default).link)+1)=jal (jac l L) (jam l (L.getD k default).link)+1:=jnL (by omega)
    rw[hcc]at hts
    repeat' first|exact hs|exact absurd hyp hb|exact absurd hb hyp|refine tU ?_|refine qaa [] [] rfl ?_|refine qab ?_ ?_|(refine tI ?_;intro hyp)|intro hyp0|exact tZ|omega
    refine⟨k+1,by omega,by omega,qaa [0,1] [] rfl ?_⟩
    rw[hts]
    simp only[PB,SAM,seval,rdB,Hk.out zc]
    simp
  ·have e:L.take k=L:=qae (by omega)
   rw[e]
   have hlm:(L.map (jaF l (jac l L))).length=L.length:=by simp
   rw[show L.length-k=0 by omega,List.replicate_zero,List.append_nil]
   repeat' first|refine tU ?_|refine qaa [1,0] [] rfl ?_|refine qab ?_ ?_|(refine tI ?_;intro hyp)|intro hyp0|exact tZ|omega)
theorem jqA {l:List ByteArray}{L:List CD}{k:Nat}(h:k<L.length):(L.map (jaF l (jac l L))).getD k default=jaF l (jac l L) (L.getD k default):=by
 rw[List.getD_eq_getElem?_getD,List.getElem?_map,ja6 h]
 rfl
theorem jbe {L:List CD}{k:Nat}(h:k<L.length):cAt L k=L.getD k default:=jcV (ja6 h)
abbrev q_rlright (L:List CD) (l:List ByteArray):QA:=([.vec .cell L,.vec .str l],L.length≤60000∧l.length≤60000∧(∀s∈l,SLen s)∧(∀c∈L,0≤c.link∧c.link<65536),.ret (.bool (jfJ L l)))
def sp_rlright:=spQ (u2 q_rlright)
theorem jlH:W2 (hA sp_rlright) q_rlright:=w2 (aA rfl)
theorem jqB:Al 37 sp_rlright:=ofA (u2 q_rlright) fun⟨L,l⟩ hG=>tfi (.f [.sl .cell,.sl .str] jjm jsF (.f [.sl .str,.sl .str] jhb jmG .nil)) 0 jjl (by
 dsimp only[u2,q_rlright]at hG ⊢
 have zc:=Hk.mk (qab @jmL (qab @jhD (qab @List.drop_replicate.{0} @List.set_set.{0})))
 obtain⟨hL,hl,hs,hc⟩:=hG
 have hm:=jg2 l L
 repeat' first|exact hs|exact hc|refine tU ?_|refine qaa [] [] rfl ?_|refine qab ?_ ?_|(refine tI ?_;intro hyp)|intro hyp0|exact tZ|omega
 ·simp only[jfJ,decide_eq_false (by omega:¬l.length≤16),qac]
 have hmm:(jac l L).length≤4611686018427387904:=by omega
 refine qah (fun k:Nat=>⟨[(0,.vec .cell L),(1,.vec .str l),(5,.vec .cell (L.map (jaF l (jac l L)))),(6,.vec .str (jac l L)),(18,.int .i64 L.length),(19,.int .i64 k)],[]⟩) (fun k=>k≤L.length∧∀j,j<k→decide (jb2 l (jac l L) (cAt L j).link=(cAt L j).link)=true) (fun k=>L.length-k) 0 ⟨by omega,fun j hj=>by omega⟩ (qaa [] [] rfl (by exact tG)) (fun k ⟨hk,hall⟩=>?_)
 by_cases hkl:k<L.length
 ·have hw:=jqA (l:=l) hkl
  have hw2:(jaF l (jac l L) (L.getD k default)).link=jb2 l (jac l L) (L.getD k default).link:=rfl
  have hcg:=jbe hkl
  have hlm:(L.map (jaF l (jac l L))).length=L.length:=by simp
  have hkm:k<(L.map (jaF l (jac l L))).length:=by omega
  repeat' first|refine tU ?_|refine qaa [] [] rfl ?_|refine qab ?_ ?_|(refine tI ?_;intro hyp)|intro hyp0|exact tZ|omega
  ·rw[jfJ,ja2 hkl (by rw[hcg];exact decide_eq_false hyp),qag,qac]
  ·exact⟨k+1,⟨by omega,jcU (by rw[hcg];exact decide_eq_true hyp) hall⟩,by omega,(qaa [] [] rfl (by exact tG))⟩
 ·repeat' first|refine tU ?_|refine qaa [] [] rfl ?_|refine qab ?_ ?_|(refine tI ?_;intro hyp)|intro hyp0|exact tZ|omega
  rw[jfJ,jbN (n:=L.length) (k:=k) (by omega) hall,qai,decide_eq_true (by omega:l.length≤16),qaj])
theorem jqC:Fre 37 sp_rlright:=ofF (u2 q_rlright) jqB fun _=>rfl
end
end
end Go.Proofs.YtienkkicehmchaaGreatDoor
