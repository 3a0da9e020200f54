/- Texts of this claim, merged by a program of this claim: Held, FLinks, DiffM3. -/
import Derived.Test.YtienkkicehmchaaGreatDoorDo10
import Derived.Test.YtienkkicehmchaaGreatDoorDo11
import Derived.Test.YtienkkicehmchaaGreatDoorDo12
import Derived.Test.YtienkkicehmchaaGreatDoorDo13
import Derived.Test.YtienkkicehmchaaGreatDoorDo6
import Derived.Test.YtienkkicehmchaaGreatDoorDo7
namespace Go.Proofs.YtienkkicehmchaaGreatDoor
open Cos renaming intro→qaa
open And renaming intro→qab
open Bool renaming false_and→qac,decide_and→qaf,and_false→qag,and_true→qai,true_and→qaj
open List renaming replicate→qad,take_of_length_le→qae,length_take→qak
open T renaming loop→qah
noncomputable section
set_option linter.unusedVariables false
set_option linter.unusedSimpArgs false
section
open Go.RowKit
structure Held (p:Prop):Prop where
 out:p
theorem jqw {x1 y1 x2 y2:Nat}{h1 h2:Bool}:curC x1 y1 h1 x2 y2 h2=true↔((¬(x2:Int)=x1∨¬(y2:Int)=y1)∨(h2==h1)=false):=by
 unfold curC
 cases h1<;>cases h2<;>simp
theorem jaJ (a:Int) (l:List Int):ja3 (a::l)=varN a.toNat++ja3 l:=rfl
theorem jcH:ja3 []=[]:=rfl
theorem jeo (a:Nat) (l:List Nat):jar (a::l)=varN a++jar l:=rfl
theorem jfv:jar []=[]:=rfl
theorem jdP {n:Nat}(h:n<128):varN n=[(n:Int)]:=jda h
end
section
open Go.RowKit
set_option maxRecDepth 100000
set_option maxHeartbeats 4000000
theorem jls (s:ByteArray) (i:Nat):(jac s).getD i 0=((s.data.toList.getD i 0).toNat:Int):=by
 simp only[jac,List.getD_eq_getElem?_getD,List.getElem?_map]
 cases s.data.toList[i]?<;>rfl
def chrB (s:ByteArray) (i:Nat):Bool:=decide (33≤(s.data.toList.getD i 0).toNat)&&decide ((s.data.toList.getD i 0).toNat≤126)
theorem jfw (s:ByteArray):jca s=(decide (1≤s.size)&&decide (s.size≤64)&&(List.range s.size).all (chrB s)):=rfl
abbrev SLen (s:ByteArray):Prop:=s.size≤9223372036854775807
abbrev q_lmay (s:ByteArray):QA:=([.str s],SLen s,.ret (.bool (jca s)))
def sp_lmay:=spQ (u1 q_lmay)
theorem jic:W1 (hA sp_lmay) q_lmay:=w1 (aA rfl)
theorem jzp:Al 128 sp_lmay:=ofA (u1 q_lmay) fun s hG=>tfi .nil 0 jeT (by
 dsimp only[u1,q_lmay]at hG ⊢
 have zc:=Hk.mk (qab @List.drop_replicate.{0} @List.set_set.{0})
 repeat' first|refine tU ?_|refine qab ?_ ?_|(refine tI ?_;intro hyp)|intro hyp0|exact tZ|omega
 refine qah (fun k:Nat=>⟨[(0,.str s),(5,.int .i64 s.size),(6,.int .i64 k)],[]⟩) (fun k=>k≤s.size∧∀j,j<k→chrB s j=true) (fun k=>s.size-k) 0 ⟨by omega,fun j hj=>by omega⟩ (qaa [] [] rfl (by exact tG)) (fun k ⟨hk,hall⟩=>?_)
 have hw:=jls s k
 repeat' first|refine tU ?_|refine qaa [] [] rfl ?_|refine qab ?_ ?_|(refine tI ?_;intro hyp)|intro hyp0|exact tZ|omega
 ·rw[jfw,jbb (by omega:k<s.size) (by simp only[chrB,HB,ne_eq,reduceCtorEq];omega),qag]
 ·exact⟨k+1,⟨by omega,jdh (by simp only[chrB,HB,ne_eq,reduceCtorEq];omega) hall⟩,by omega,(qaa [] [] rfl (by exact tG))⟩
 ·rw[jfw,jb9 (n:=s.size) (k:=k) (by omega) hall,qai]
  rw[←qaf,←qaf]
  exact decide_eq_decide.2 (by omega))
theorem jph:Fre 128 sp_lmay:=ofF (u1 q_lmay) jzp fun _=>rfl
abbrev q_rlmay (s:ByteArray):QA:=([.str s],SLen s,.ret (.bool (jca s)))
def sp_rlmay:=spQ (u1 q_rlmay)
theorem jpi:W1 (hA sp_rlmay) q_rlmay:=w1 (aA rfl)
theorem jwY:Al 119 sp_rlmay:=ofA (u1 q_rlmay) fun s hG=>tfi .nil 0 jnN (by
 dsimp only[u1,q_rlmay]at hG ⊢
 have zc:=Hk.mk (qab @List.drop_replicate.{0} @List.set_set.{0})
 repeat' first|refine tU ?_|refine qaa [] [] rfl ?_|refine qab ?_ ?_|(refine tI ?_;intro hyp)|intro hyp0|exact tZ|omega
 ·rw[jfw,←qaf,decide_eq_false (by omega),qac]
 refine qah (fun k:Nat=>⟨[(0,.str s),(3,.int .i64 k)],[]⟩) (fun k=>k≤s.size∧∀j,j<k→chrB s j=true) (fun k=>s.size-k) 0 ⟨by omega,fun j hj=>by omega⟩ (qaa [] [] rfl (by exact tG)) (fun k ⟨hk,hall⟩=>?_)
 have hw:=jls s k
 repeat' first|refine tU ?_|refine qaa [] [] rfl ?_|refine qab ?_ ?_|(refine tI ?_;intro hyp)|intro hyp0|exact tZ|omega
 ·rw[jfw,jbb (by omega:k<s.size) (by simp only[chrB,HB,ne_eq,reduceCtorEq];omega),qag]
 ·exact⟨k+1,⟨by omega,jdh (by simp only[chrB,HB,ne_eq,reduceCtorEq];omega) hall⟩,by omega,(qaa [] [] rfl (by exact tG))⟩
 ·rw[jfw,jb9 (n:=s.size) (k:=k) (by omega) hall,qai,←qaf,decide_eq_true (by omega)])
theorem jwZ:Fre 119 sp_rlmay:=ofF (u1 q_rlmay) jwY fun _=>rfl
abbrev q_sindex (l:List ByteArray) (s:ByteArray):QA:=([.vec .str l,.str s],l.length≤4611686018427387904,.ret (.int .i64 (jaq l s)))
def sp_sindex:=spQ (u2 q_sindex)
theorem jfx:W2 (hA sp_sindex) q_sindex:=w2 (aA rfl)
theorem jt9:Al 157 sp_sindex:=ofA (u2 q_sindex) fun⟨l,s⟩ hG=>tfi .nil 0 jba (by
 dsimp only[u2,q_sindex]at hG ⊢
 have zc:=Hk.mk (qab @List.drop_replicate.{0} @List.set_set.{0})
 repeat' first|refine tU ?_|refine qab ?_ ?_|(refine tI ?_;intro hyp)|intro hyp0|exact tZ|omega
 refine qah (fun k:Nat=>⟨[(0,.vec .str l),(1,.str s),(7,.int .i64 l.length),(8,.int .i64 k)],[]⟩) (fun k=>k≤l.length∧∀(j:Nat) (x:ByteArray),j<k→l[j]?=some x→jdw x s=false) (fun k=>l.length-k) 0 ⟨by omega,fun j x hj=>by omega⟩ (qaa [] [] rfl (by exact tG)) (fun k ⟨hk,hall⟩=>?_)
 repeat' first|refine tU ?_|refine qaa [] [] rfl ?_|refine qab ?_ ?_|(refine tI ?_;intro hyp)|intro hyp0|exact tZ|omega
 ·exact (jeg l s k hall _ (jaW (d:=ETy.str.dflt) (by omega)) (ja9.2 (hyp.symm))).symm
 ·refine⟨k+1,⟨by omega,fun j x hj hx=>?_⟩,by omega,(qaa [] [] rfl (by exact tG))⟩
  by_cases e:j=k
  ·subst e
   rw[jaW (d:=ETy.str.dflt) (by omega)]at hx
   cases hx
   exact jdi.2 (fun q=>hyp (q.symm))
  ·exact hall j x (by omega) hx
 ·exact (jjW l s (fun j x hx=>hall j x (by have:=(List.getElem?_eq_some_iff.1 hx).1;omega) hx)).symm)
theorem jkd:Fre 157 sp_sindex:=ofF (u2 q_sindex) jt9 fun _=>rfl
abbrev q_rplace (l:List ByteArray) (s:ByteArray):QA:=([.vec .str l,.str s],l.length≤4611686018427387904,.ret (.int .i64 (jaq l s)))
def sp_rplace:=spQ (u2 q_rplace)
theorem jnO:W2 (hA sp_rplace) q_rplace:=w2 (aA rfl)
theorem jua:Al 122 sp_rplace:=ofA (u2 q_rplace) fun⟨l,s⟩ hG=>tfi .nil 0 jj9 (by
 dsimp only[u2,q_rplace]at hG ⊢
 have zc:=Hk.mk (qab @List.drop_replicate.{0} @List.set_set.{0})
 repeat' first|refine tU ?_|refine qab ?_ ?_|(refine tI ?_;intro hyp)|intro hyp0|exact tZ|omega
 refine qah (fun k:Nat=>⟨[(0,.vec .str l),(1,.str s),(5,.int .i64 k)],[]⟩) (fun k=>k≤l.length∧∀(j:Nat) (x:ByteArray),j<k→l[j]?=some x→jdw x s=false) (fun k=>l.length-k) 0 ⟨by omega,fun j x hj=>by omega⟩ (qaa [] [] rfl (by exact tG)) (fun k ⟨hk,hall⟩=>?_)
 repeat' first|refine tU ?_|refine qaa [] [] rfl ?_|refine qab ?_ ?_|(refine tI ?_;intro hyp)|intro hyp0|exact tZ|omega
 ·exact (jeg l s k hall _ (jaW (d:=ETy.str.dflt) (by omega)) (ja9.2 (hyp))).symm
 ·refine⟨k+1,⟨by omega,fun j x hj hx=>?_⟩,by omega,(qaa [] [] rfl (by exact tG))⟩
  by_cases e:j=k
  ·subst e
   rw[jaW (d:=ETy.str.dflt) (by omega)]at hx
   cases hx
   exact jdi.2 (fun q=>hyp (q))
  ·exact hall j x (by omega) hx
 ·exact (jjW l s (fun j x hx=>hall j x (by have:=(List.getElem?_eq_some_iff.1 hx).1;omega) hx)).symm)
theorem jub:Fre 122 sp_rplace:=ofF (u2 q_rplace) jua fun _=>rfl
abbrev q_scontains (l:List ByteArray) (s:ByteArray):QA:=([.vec .str l,.str s],l.length≤4611686018427387904,.ret (.bool (decide (0≤jaq l s))))
def sp_scontains:=spQ (u2 q_scontains)
theorem jke:W2 (hA sp_scontains) q_scontains:=w2 (aA rfl)
theorem jnP:Al 129 sp_scontains:=ofA (u2 q_scontains) fun⟨l,s⟩ hG=>tfi (.f [.sl .str,.any] jba jkd .nil) 0 jb1 (by
 dsimp only[u2,q_scontains]at hG ⊢
 have zc:=Hk.mk (qab @jfx (qab @List.drop_replicate.{0} @List.set_set.{0}))
 repeat' first|refine tU ?_|refine qaa [] [] rfl ?_|refine qab ?_ ?_|(refine tI ?_;intro hyp)|intro hyp0|exact tZ|omega)
theorem jnQ:Fre 129 sp_scontains:=ofF (u2 q_scontains) jnP fun _=>rfl
abbrev q_sclone (L:List ByteArray):QA:=([.vec .str L],L.length≤1000000,.ret (.vec .str L))
def sp_sclone:=spQ (u1 q_sclone)
theorem jiB:W1 (hA sp_sclone) q_sclone:=w1 (aA rfl)
theorem jnR:Fre 43 sp_sclone:=ofT (u1 q_sclone) fun L hG=>tfi .nil 0 jbF (by
 dsimp only[u1,q_sclone]at hG ⊢
 have zc:=Hk.mk (qab @List.drop_replicate.{0} @List.set_set.{0})
 repeat' first|refine tU ?_|refine Cos.row (t:=.str) rfl ?_ rfl (Nat.le_refl _)|exact Cos.nilRow (t:=.str) (by cases L<;>simp_all)|refine qab ?_ ?_|(refine tI ?_;intro hyp)|intro hyp0|exact tZ|omega)
abbrev q_rssame (L M:List ByteArray):QA:=([.vec .str L,.vec .str M],L.length≤4611686018427387904∧M.length≤4611686018427387904,.ret (.bool (decide (L=M))))
def sp_rssame:=spQ (u2 q_rssame)
theorem jiC:W2 (hA sp_rssame) q_rssame:=w2 (aA rfl)
theorem juc:Al 34 sp_rssame:=ofA (u2 q_rssame) fun⟨L,M⟩ hG=>tfi .nil 0 jib (by
 dsimp only[u2,q_rssame]at hG ⊢
 have zc:=Hk.mk (qab @List.drop_replicate.{0} @List.set_set.{0})
 repeat' first|refine tU ?_|refine qaa [] [] rfl ?_|refine qab ?_ ?_|(refine tI ?_;intro hyp)|intro hyp0|exact tZ|omega
 ·exact (decide_eq_false fun e=>by subst e;omega).symm
 ·refine qah (fun k:Nat=>⟨[(0,.vec .str L),(1,.vec .str M),(12,.int .i64 L.length),(13,.int .i64 k)],[]⟩) (fun k=>k≤L.length∧∀j,j<k→L[j]?=M[j]?) (fun k=>L.length-k) 0 ⟨by omega,fun j hj=>by omega⟩ (qaa [] [] rfl (by exact tG)) (fun k ⟨hk,hall⟩=>?_)
  repeat' first|refine tU ?_|refine qaa [] [] rfl ?_|exact⟨k+1,⟨by omega,jee (by omega) (by omega) hyp hall⟩,by omega,(qaa [] [] rfl (by exact tG))⟩|refine qab ?_ ?_|(refine tI ?_;intro hyp)|intro hyp0|exact tZ|omega
  ·exact (decide_eq_false fun e=>by subst e;exact hyp rfl).symm
  ·exact (decide_eq_true (jfP (by omega) (by omega) hall)).symm)
theorem jnS:Fre 34 sp_rssame:=ofF (u2 q_rssame) juc fun _=>rfl
abbrev q_sequal (L M:List ByteArray):QA:=([.vec .str L,.vec .str M],L.length≤4611686018427387904∧M.length≤4611686018427387904,.ret (.bool (decide (L=M))))
def sp_sequal:=spQ (u2 q_sequal)
theorem jnT:W2 (hA sp_sequal) q_sequal:=w2 (aA rfl)
theorem jud:Al 174 sp_sequal:=ofA (u2 q_sequal) fun⟨L,M⟩ hG=>tfi .nil 0 jcI (by
 dsimp only[u2,q_sequal]at hG ⊢
 have zc:=Hk.mk (qab @List.drop_replicate.{0} @List.set_set.{0})
 repeat' first|refine tU ?_|refine qaa [] [] rfl ?_|refine qab ?_ ?_|(refine tI ?_;intro hyp)|intro hyp0|exact tZ|omega
 ·exact (decide_eq_false fun e=>by subst e;omega).symm
 ·refine qah (fun k:Nat=>⟨[(0,.vec .str L),(1,.vec .str M),(12,.int .i64 L.length),(13,.int .i64 k)],[]⟩) (fun k=>k≤L.length∧∀j,j<k→L[j]?=M[j]?) (fun k=>L.length-k) 0 ⟨by omega,fun j hj=>by omega⟩ (qaa [] [] rfl (by exact tG)) (fun k ⟨hk,hall⟩=>?_)
  repeat' first|refine tU ?_|refine qaa [] [] rfl ?_|exact⟨k+1,⟨by omega,jee (by omega) (by omega) hyp hall⟩,by omega,(qaa [] [] rfl (by exact tG))⟩|refine qab ?_ ?_|(refine tI ?_;intro hyp)|intro hyp0|exact tZ|omega
  ·exact (decide_eq_false fun e=>by subst e;exact hyp rfl).symm
  ·exact (decide_eq_true (jfP (by omega) (by omega) hall)).symm)
theorem jue:Fre 174 sp_sequal:=ofF (u2 q_sequal) jud fun _=>rfl
theorem jht {l:List ByteArray}{i:Nat}(h:i<l.length):l.getD i ETy.str.dflt∈l:=List.mem_of_getElem? (jaW h)
theorem jnU {l:List ByteArray}{v:Int}(h:¬v=0∧¬(l.length:Int)<v) (hb:jca (l.getD (v-1).toNat ETy.str.dflt)=true):jaw l v=l.getD (v-1).toNat ETy.str.dflt:=by
 unfold jaw
 rw[if_neg (by omega),show sAt l (v-1).toNat=l.getD (v-1).toNat ETy.str.dflt from rfl,if_pos hb]
theorem jmH {l:List ByteArray}{v:Int}(h:(v=0∨(l.length:Int)<v)∨jca (l.getD (v-1).toNat ETy.str.dflt)=false):jaw l v=bs []:=by
 unfold jaw
 by_cases e:v=0∨(l.length:Int)<v
 ·rw[if_pos e];rfl
 ·rw[if_neg e,show sAt l (v-1).toNat=l.getD (v-1).toNat ETy.str.dflt from rfl,if_neg (by rw[h.resolve_left e];decide)];rfl
abbrev q_rleads (l:List ByteArray) (v:Int):QA:=([.vec .str l,.int .u16 v],l.length≤1000000∧(0≤v∧v<65536)∧(∀s∈l,SLen s),.ret (.str (jaw l v)))
def sp_rleads:=spQ (u2 q_rleads)
theorem jnV:W2 (hA sp_rleads) q_rleads:=w2 (aA rfl)
theorem juf:Al 121 sp_rleads:=ofA (u2 q_rleads) fun⟨l,v⟩ hG=>tfi (.f [.any] jnN jwZ .nil) 0 jka (by
 dsimp only[u2,q_rleads]at hG ⊢
 have zc:=Hk.mk (qab @jpi (qab @List.drop_replicate.{0} @List.set_set.{0}))
 obtain⟨hl,hv,hs⟩:=hG
 have hw:1≤v→IntKind.u16.wrap (v-1)=v-1:=fun h=>joP (by omega)
 by_cases h0:v=0
 ·subst h0
  repeat' first|refine tU ?_|refine qaa [] [] rfl ?_|refine qab ?_ ?_|(refine tI ?_;intro hyp)|intro hyp0|exact tZ|omega
  ·exact (jmH (Or.inl (Or.inl rfl))).symm
 ·have hw:=hw (by omega)
  repeat' first|refine tU ?_|refine qaa [] [] rfl ?_|refine qab ?_ ?_|(refine tI ?_;intro hyp)|intro hyp0|exact tZ|omega
  ·exact hs _ (jht (by omega))
  ·exact (jmH hyp).symm
  ·exact (jnU hyp.1 hyp.2).symm)
theorem jug:Fre 121 sp_rleads:=ofF (u2 q_rleads) juf fun _=>rfl
theorem jr1 {l:List ByteArray}{k:Nat}(h:jca (l.getD k ETy.str.dflt)=true∧¬0≤jaq (l.take k) (l.getD k ETy.str.dflt)):jgh l k=true:=by
 show (jca (l.getD k ETy.str.dflt) && !decide (0≤jaq (l.take k) (l.getD k ETy.str.dflt)))=true
 rw[h.1,decide_eq_false h.2];rfl
theorem juh {l:List ByteArray}{k:Nat}(h:jca (l.getD k ETy.str.dflt)=false∨0≤jaq (l.take k) (l.getD k ETy.str.dflt)):jgh l k=false:=by
 show (jca (l.getD k ETy.str.dflt) && !decide (0≤jaq (l.take k) (l.getD k ETy.str.dflt)))=false
 rcases h with h|h
 ·rw[h,qac]
 ·rw[decide_eq_true h];simp
theorem jcd {L:List CD}{k:Nat}(h:k<L.length):L[k]?=some (L.getD k default):=jaW h
theorem jqx {m:Nat}{L:List CD}{k:Nat}{t:Int}(hk:k<L.length) (h:jeh m (L.take k)=some t) (hn:¬(t+1<(L.getD k default).link∨(m:Int)<(L.getD k default).link)):jeh m (L.take (k+1))=some (max t (L.getD k default).link):=by
 rw[jav (jcd hk),jb0,h]
 exact if_neg hn
theorem jzq {m:Nat}{L:List CD}{k:Nat}{t:Int}(hk:k<L.length) (h:jeh m (L.take k)=some t) (hn:t+1<(L.getD k default).link∨(m:Int)<(L.getD k default).link):jeh m L=none:=by
 rw[←List.take_append_drop (k+1) L]
 refine jrM m _ _ ?_
 rw[jav (jcd hk),jb0,h]
 exact if_pos hn
theorem jw0 {L:List CD}{l:List ByteArray}(h:jeh l.length L=none):jbu L l=false:=by
 simp[jbu,h]
theorem jbp {L:List CD}{k:Nat}(h:k<L.length):L.getD k default∈L:=List.mem_of_getElem? (jaW h)
abbrev q_lright (L:List CD) (l:List ByteArray):QA:=([.vec .cell L,.vec .str l],L.length≤1000000∧l.length≤4611686018427387904∧(∀s∈l,SLen s)∧(∀c∈L,0≤c.link∧c.link<65536),.ret (.bool (jbu L l)))
def sp_lright:=spQ (u2 q_lright)
theorem jnW:W2 (hA sp_lright) q_lright:=w2 (aA rfl)
theorem jui:Al 93 sp_lright:=ofA (u2 q_lright) fun⟨L,l⟩ hG=>tfi (.f [.any] jeT jph (.f [.sl .str,.any] jb1 jnQ .nil)) 0 jhr (by
 dsimp only[u2,q_lright]at hG ⊢
 have zc:=Hk.mk (qab @jic (qab @jke (qab @List.drop_replicate.{0} @List.set_set.{0})))
 obtain⟨hL,hl,hs,hc⟩:=hG
 repeat' first|refine tU ?_|refine qaa [] [] rfl ?_|refine qab ?_ ?_|(refine tI ?_;intro hyp)|intro hyp0|exact tZ|omega
 ·simp only[jbu,decide_eq_false (by omega:¬l.length≤16),qac]
 refine qah (fun k:Nat=>⟨[(0,.vec .cell L),(1,.vec .str l),(14,.vec .str l),(15,.int .i64 l.length),(16,.int .i64 k)],[]⟩) (fun k=>k≤l.length∧∀j,j<k→jgh l j=true) (fun k=>l.length-k) 0 ⟨by omega,fun j hj=>by omega⟩ (qaa [] [] rfl (by exact tG)) (fun k ⟨hk,hall⟩=>?_)
 repeat' first|refine tU ?_|refine qaa [] [] rfl ?_|refine qab ?_ ?_|(refine tI ?_;intro hyp)|intro hyp0|exact tZ|omega
 ·exact hs _ (jht (by omega))
 ·rw[qak];omega
 ·rw[jbu,jbb (by omega:k<l.length) (juh hyp),qag,qac]
 ·exact⟨k+1,⟨by omega,jdh (jr1 hyp) hall⟩,by omega,(qaa [] [] rfl (by exact tG))⟩
 have hall:=fun j (h:j<l.length)=>hall j (by omega)
 refine qah (fun q:Nat×Int=>⟨[(1,.vec .str l),(7,.int .i64 q.2),(32,.vec .cell L),(33,.int .i64 L.length),(34,.int .i64 q.1)],[]⟩) (fun q=>q.1≤L.length∧(0≤q.2∧q.2<65536)∧jeh l.length (L.take q.1)=some q.2) (fun q=>L.length-q.1) (0,0) ⟨by omega,by omega,rfl⟩ (qaa [] [] rfl (by exact tG)) (fun⟨k,t⟩ ⟨hk,ht,htop⟩=>?_)
 dsimp only at hk ht htop ⊢
 have hck:k<L.length→0≤(L.getD k default).link∧(L.getD k default).link<65536:=fun h=>hc _ (jbp h)
 by_cases hkl:k<L.length
 ·have hck:=hck hkl
  repeat' first|refine tU ?_|refine qaa [] [] rfl ?_|refine qab ?_ ?_|(refine tI ?_;intro hyp)|intro hyp0|exact tZ|omega
  ·exact (jw0 (jzq hkl htop (by omega))).symm
  ·exact⟨(k+1,(L.getD k default).link),⟨by omega,hck,by rw[jqx hkl htop (by omega)];congr 1;omega⟩,by simp only;omega,(qaa [] [] rfl (by exact tG))⟩
  ·exact⟨(k+1,t),⟨by omega,ht,by rw[jqx hkl htop (by omega)];congr 1;omega⟩,by simp only;omega,(qaa [] [] rfl (by exact tG))⟩
 ·have e:L.take k=L:=qae (by omega)
  rw[e]at htop
  repeat' first|refine tU ?_|refine qaa [] [] rfl ?_|refine qab ?_ ?_|(refine tI ?_;intro hyp)|intro hyp0|exact tZ|omega
  ·have ha:(List.range l.length).all (jgh l)=true:=List.all_eq_true.2 fun j hj=>hall j (List.mem_range.1 hj)
   rw[jbu,htop,decide_eq_true (by omega:l.length≤16),ha,qaj,qaj]
   exact decide_eq_decide.2 ⟨fun e=>by rw[e],fun e=>Option.some.inj e⟩)
theorem juj:Fre 93 sp_lright:=ofF (u2 q_lright) jui fun _=>rfl
theorem jr2 {l:List ByteArray}{L:List CD}{k:Nat}(h:k<L.length):jab l (L.take (k+1))=jbA l (jab l (L.take k)) (L.getD k default):=by
 rw[jav (jcd h),jaN]
theorem ji9:bs []=emptyS:=rfl
theorem jeU {α:Type}{M:List α}{k:Nat}{a d:α}(h:k<M.length):(M.set k a).getD k d=a:=by
 rw[List.getD_eq_getElem?_getD,List.getElem?_set_self h]
 rfl
theorem jBC {α:Type}{A:List α}{n k:Nat}{a d:α}(hA:A.length=k) (h:k<n):(A++qad (n-k) d).set k a=A++[a]++qad (n-(k+1)) d:=by
 rw[List.set_append_right _ _ (by omega),hA,Nat.sub_self,show n-k=n-(k+1)+1 by omega,List.replicate_succ,List.set_cons_zero]
 simp
abbrev q_rcanon (L:List CD) (l:List ByteArray):QA:=([.vec .cell L,.vec .str l],L.length≤60000∧l.length≤60000∧(∀s∈l,SLen s)∧(∀c∈L,0≤c.link∧c.link<65536),.ret (.tup [.vec .cell (L.map (jaH l (jab l L))),.vec .str (jab l L)]))
def sp_rcanon:=spQ (u2 q_rcanon)
theorem jnX:W2 (hA sp_rcanon) q_rcanon:=w2 (aA rfl)
theorem juk:Fre 86 sp_rcanon:=ofT (u2 q_rcanon) fun⟨L,l⟩ hG=>tfi (.f [.sl .str,.any] jka jug (.f [.sl .str,.any] jj9 jub .nil)) 0 jkc (by
 dsimp only[u2,q_rcanon]at hG ⊢
 have zc:=Hk.mk (qab @jnV (qab @jnO (qab @List.drop_replicate.{0} @List.set_set.{0})))
 obtain⟨hL,hl,hs,hc⟩:=hG
 repeat' first|refine tU ?_|refine qaa [] [] rfl ?_|refine qab ?_ ?_|(refine tI ?_;intro hyp)|intro hyp0|exact tZ|omega
 refine qah (fun k:Nat=>⟨[(0,.vec .cell L),(1,.vec .str l),(6,.slice 0 0 1 (jab l (L.take k)).length (jab l (L.take k)).length),(7,.int .i64 k)],[.seq .str (jab l (L.take k))]⟩) (fun k=>k≤L.length) (fun k=>L.length-k) 0 (by omega) (qaa [0] [] rfl (by simp only[PB,SAM,seval,rdB,Hk.out zc];simp[jab])) (fun k hk=>?_)
 have hlen:(jab l (L.take k)).length≤60000:=by
  have:=jh5 l (L.take k)
  rw[qak]at this
  omega
 have hck:k<L.length→0≤(L.getD k default).link∧(L.getD k default).link<65536:=fun h=>hc _ (jbp h)
 by_cases hkl:k<L.length
 ·have hck:=hck hkl
  have hst:=jr2 (l:=l) hkl
  repeat' first|exact hs|refine tU ?_|refine qaa [] [] rfl ?_|refine qab ?_ ?_|(refine tI ?_;intro hyp)|intro hyp0|exact tZ|omega
  ·refine⟨k+1,by omega,by omega,qaa [2] [] rfl ?_⟩
   rw[hst,jbA,if_pos (by rw[←ji9];exact hyp)]
   simp only[PB,SAM,seval,rdB,Hk.out zc]
   simp
  ·refine⟨k+1,by omega,by omega,qaa [0] [] rfl ?_⟩
   rw[hst,jbA,if_neg (by rw[←ji9];exact fun q=>hyp.elim q.1 (fun w=>w q.2))]
   simp only[PB,SAM,seval,rdB,Hk.out zc]
   simp
 ·have e:L.take k=L:=qae (by omega)
  rw[e]
  repeat' first|refine tU ?_|refine qaa [] [] rfl ?_|refine qab ?_ ?_|(refine tI ?_;intro hyp)|intro hyp0|exact tZ|omega
  rw[e]at hlen
  refine qah (fun k:Nat=>⟨[(0,.vec .cell L),(1,.vec .str l),(6,.slice 0 0 1 (jab l L).length (jab l L).length),(9,.slice 1 0 6 L.length L.length),(43,.int .i64 L.length),(44,.int .i64 k)],[.seq .str (jab l L),.seq .cell ((L.take k).map (jaH l (jab l L))++qad (L.length-k) default)]⟩) (fun k=>k≤L.length) (fun k=>L.length-k) 0 (by omega) (qaa [0,1] [] rfl (by simp only[PB,SAM,seval,rdB,Hk.out zc];simp)) (fun k hk=>?_)
  have hml:((L.take k).map (jaH l (jab l L))).length=k:=by simp;omega
  by_cases hkl:k<L.length
  ·have hck:=hc _ (jbp hkl)
   have hn:=jtC l (jab l L) (L.getD k default).link
   have hw:∀a:CD,(((L.take k).map (jaH l (jab l L))++qad (L.length-k) default).set k a).getD k default=a:=fun a=>jeU (by simp;omega)
   have hts:((L.take k).map (jaH l (jab l L))++qad (L.length-k) default).set k (jaH l (jab l L) (L.getD k default))=(L.take (k+1)).map (jaH l (jab l L))++qad (L.length-(k+1)) default:=by
    rw[jav (jcd hkl),List.map_append,jBC (by simp;omega) hkl]
    rfl
   by_cases hb:jaw l (L.getD k default).link=bs []
   ·have hcn:jaH l (jab l L) (L.getD k default)={ L.getD k default with link:=0 }:=by
     rw[jaH,jcm,if_pos (hb.trans ji9)]
     rfl
    rw[hcn]at hts
    repeat' first|exact hs|exact absurd hyp hb|exact absurd hb hyp|refine tU ?_|refine qaa [] [] rfl ?_|refine qab ?_ ?_|(refine tI ?_;intro hyp)|intro hyp0|exact tZ|omega
    refine⟨k+1,by omega,by omega,qaa [0,1] [] rfl ?_⟩
    rw[hts]
    simp only[PB,SAM,seval,rdB,Hk.out zc]
    simp
   ·have hcn:jcm l (jab l L) (L.getD k default).link=jaq (jab l L) (jaw l (L.getD k default).link)+1:=if_neg hb
    have hcc:jaH l (jab l L) (L.getD k default)={ L.getD k default with link:=jaq (jab l L) (jaw l (L.getD k default).link)+1 }:=by
     rw[jaH,hcn]
     rfl
    have hw2:IntKind.u16.wrap (jaq (jab l L) (jaw l (L.getD k default).link)+1)=jaq (jab l L) (jaw l (L.getD k default).link)+1:=joP (by omega)
    rw[hcc]at hts
    repeat' first|exact hs|exact absurd hyp hb|exact absurd hb hyp|refine tU ?_|refine qaa [] [] rfl ?_|refine qab ?_ ?_|(refine tI ?_;intro hyp)|intro hyp0|exact tZ|omega
    refine⟨k+1,by omega,by omega,qaa [0,1] [] rfl ?_⟩
    rw[hts]
    simp only[PB,SAM,seval,rdB,Hk.out zc]
    simp
  ·have e:L.take k=L:=qae (by omega)
   rw[e]
   have hlm:(L.map (jaH l (jab l L))).length=L.length:=by simp
   rw[show L.length-k=0 by omega,List.replicate_zero,List.append_nil]
   repeat' first|refine tU ?_|refine qaa [1,0] [] rfl ?_|refine qab ?_ ?_|(refine tI ?_;intro hyp)|intro hyp0|exact tZ|omega)
theorem jr3 {l:List ByteArray}{L:List CD}{k:Nat}(h:k<L.length):(L.map (jaH l (jab l L))).getD k default=jaH l (jab l L) (L.getD k default):=by
 rw[List.getD_eq_getElem?_getD,List.getElem?_map,jcd h]
 rfl
theorem jce {L:List CD}{k:Nat}(h:k<L.length):cAt L k=L.getD k default:=je7 (jcd h)
abbrev q_rlright (L:List CD) (l:List ByteArray):QA:=([.vec .cell L,.vec .str l],L.length≤60000∧l.length≤60000∧(∀s∈l,SLen s)∧(∀c∈L,0≤c.link∧c.link<65536),.ret (.bool (jgC L l)))
def sp_rlright:=spQ (u2 q_rlright)
theorem jmI:W2 (hA sp_rlright) q_rlright:=w2 (aA rfl)
theorem jr4:Al 37 sp_rlright:=ofA (u2 q_rlright) fun⟨L,l⟩ hG=>tfi (.f [.sl .cell,.sl .str] jkc juk (.f [.sl .str,.sl .str] jib jnS .nil)) 0 jkb (by
 dsimp only[u2,q_rlright]at hG ⊢
 have zc:=Hk.mk (qab @jnX (qab @jiC (qab @List.drop_replicate.{0} @List.set_set.{0})))
 obtain⟨hL,hl,hs,hc⟩:=hG
 have hm:=jh5 l L
 repeat' first|exact hs|exact hc|refine tU ?_|refine qaa [] [] rfl ?_|refine qab ?_ ?_|(refine tI ?_;intro hyp)|intro hyp0|exact tZ|omega
 ·simp only[jgC,decide_eq_false (by omega:¬l.length≤16),qac]
 have hmm:(jab l L).length≤4611686018427387904:=by omega
 refine qah (fun k:Nat=>⟨[(0,.vec .cell L),(1,.vec .str l),(5,.vec .cell (L.map (jaH l (jab l L)))),(6,.vec .str (jab l L)),(18,.int .i64 L.length),(19,.int .i64 k)],[]⟩) (fun k=>k≤L.length∧∀j,j<k→decide (jcm l (jab l L) (cAt L j).link=(cAt L j).link)=true) (fun k=>L.length-k) 0 ⟨by omega,fun j hj=>by omega⟩ (qaa [] [] rfl (by exact tG)) (fun k ⟨hk,hall⟩=>?_)
 by_cases hkl:k<L.length
 ·have hw:=jr3 (l:=l) hkl
  have hw2:(jaH l (jab l L) (L.getD k default)).link=jcm l (jab l L) (L.getD k default).link:=rfl
  have hcg:=jce hkl
  have hlm:(L.map (jaH l (jab l L))).length=L.length:=by simp
  have hkm:k<(L.map (jaH l (jab l L))).length:=by omega
  repeat' first|refine tU ?_|refine qaa [] [] rfl ?_|refine qab ?_ ?_|(refine tI ?_;intro hyp)|intro hyp0|exact tZ|omega
  ·rw[jgC,jbb hkl (by rw[hcg];exact decide_eq_false hyp),qag,qac]
  ·exact⟨k+1,⟨by omega,jdh (by rw[hcg];exact decide_eq_true hyp) hall⟩,by omega,(qaa [] [] rfl (by exact tG))⟩
 ·repeat' first|refine tU ?_|refine qaa [] [] rfl ?_|refine qab ?_ ?_|(refine tI ?_;intro hyp)|intro hyp0|exact tZ|omega
  rw[jgC,jb9 (n:=L.length) (k:=k) (by omega) hall,qai,decide_eq_true (by omega:l.length≤16),qaj])
theorem jr5:Fre 37 sp_rlright:=ofF (u2 q_rlright) jr4 fun _=>rfl
end
section
open Go.RowKit
end
end
end Go.Proofs.YtienkkicehmchaaGreatDoor
