/- Texts of this claim, merged by a program of this claim: FLinks2, FScr. -/
import Derived.Test.YtienkkicehmchaaGreatDoorDl11
import Derived.Test.YtienkkicehmchaaGreatDoorDl16
import Derived.Test.YtienkkicehmchaaGreatDoorDl17
import Derived.Test.YtienkkicehmchaaGreatDoorDl20
import Derived.Test.YtienkkicehmchaaGreatDoorDl6
namespace Go.Proofs.YtienkkicehmchaaGreatDoor
open And renaming intro→qaa
open Cos renaming intro→qab
open List renaming take_of_length_le→qac,length_cons→qad
noncomputable section
set_option linter.unusedVariables false
set_option linter.unusedSimpArgs false
section
open Go.RowKit
set_option maxRecDepth 100000
set_option maxHeartbeats 4000000
theorem jyy {α:Type}{A L:List α}{k:Nat}{a:α}(hA:A.length=k) (h:k<L.length):(A++L.drop k).set k a=A++[a]++L.drop (k+1):=by
 rw[List.set_append_right _ _ (by omega),hA,Nat.sub_self,List.drop_eq_getElem_cons h,List.set_cons_zero]
 simp
theorem jqD {α:Type}{A L:List α}{k:Nat}{d:α}(hA:A.length=k):(A++L.drop k).getD k d=L.getD k d:=by
 rw[List.getD_eq_getElem?_getD,List.getD_eq_getElem?_getD,List.getElem?_append_right (by omega),hA,Nat.sub_self,List.getElem?_drop,Nat.add_zero]
theorem jky {l:List ByteArray}{v:Int}(h:¬v<1∧¬(l.length:Int)<v) (hb:jcs (l.getD (v-1).toNat ETy.str.dflt)=true):jam l v=l.getD (v-1).toNat ETy.str.dflt:=jmI (by omega) hb
theorem jmM:∀(m:List ByteArray) (s:ByteArray),jal m s<m.length∨jal m s<0
 | [],s=>Or.inr (by simp[jal])
 | x::m,s=>by
  have:=jmM m s
  simp only[jal]
  split
  ·simp
  ·simp only[qad]
   split<;>omega
abbrev q_lcanon (L:List CD) (l:List ByteArray):QA:=([.vec .cell L,.vec .str l],L.length≤60000∧l.length≤60000∧(∀s∈l,SLen s)∧(∀c∈L,0≤c.link∧c.link<65536),.ret (.tup [.vec .cell (L.map (jaF l (jac l L))),.vec .str (jac l L)]))
def sp_lcanon:=spQ (u2 q_lcanon)
theorem jmN:W2 (hA sp_lcanon) q_lcanon:=w2 (aA rfl)
theorem jsG:Fre 192 sp_lcanon:=ofT (u2 q_lcanon) fun⟨L,l⟩ hG=>tfi (.t [.sl .cell] jaT jid (.f [.any] jfP jsv (.f [.sl .str,.any] ja1 jjn .nil))) 0 jgA (by
 dsimp only[u2,q_lcanon]at hG ⊢
 have zc:=Hk.mk (qaa @jd1 (qaa @jkx (qaa @jeM (qaa @List.drop_replicate.{0} @List.set_set.{0}))))
 obtain⟨hL,hl,hs,hc⟩:=hG
 repeat' first|refine tU ?_|refine qab [] [] rfl ?_|refine qaa ?_ ?_|(refine tI ?_;intro hyp)|intro hyp0|exact tZ|omega
 refine T.loop (fun k:Nat=>⟨[(1,.vec .str l),(6,.slice 0 0 6 L.length L.length),(7,.slice 1 0 1 (jac l (L.take k)).length (jac l (L.take k)).length),(14,.int .i64 L.length),(15,.int .i64 k)],[.seq .cell ((L.take k).map (jaF l (jac l L))++L.drop k),.seq .str (jac l (L.take k))]⟩) (fun k=>k≤L.length) (fun k=>L.length-k) 0 (by omega) (qab [0,99] [] rfl (by simp only[PB,SAM,seval,rdB,Hk.out zc];simp[jac,crs,crsL,jaE])) (fun k hk=>?_)
 have hlen:(jac l (L.take k)).length≤60000:=by
  have:=jg2 l (L.take k)
  rw[List.length_take]at this
  omega
 have hml:((L.take k).map (jaF l (jac l L))).length=k:=by simp;omega
 have hal:((L.take k).map (jaF l (jac l L))++L.drop k).length=L.length:=by simp;omega
 by_cases hkl:k<L.length
 ·have hck:=hc _ (jaV hkl)
  have hw:((L.take k).map (jaF l (jac l L))++L.drop k).getD k default=L.getD k default:=jqD hml
  have hw2:∀a:CD,(((L.take k).map (jaF l (jac l L))++L.drop k).set k a).getD k default=a:=fun a=>jd9 (by omega)
  have hts:((L.take k).map (jaF l (jac l L))++L.drop k).set k (jaF l (jac l L) (L.getD k default))=(L.take (k+1)).map (jaF l (jac l L))++L.drop (k+1):=by
   rw[jar (ja6 hkl),List.map_append,jyy hml hkl]
   rfl
  have hx:k<((L.take k).map (jaF l (jac l L))).length+(L.drop k).length:=by simp;omega
  have hw3:IntKind.u16.wrap (((jac l (L.take k)).length:Int)+1)=((jac l (L.take k)).length:Int)+1:=jnL (by omega)
  have hw4:∀s,IntKind.u16.wrap (jal (jac l (L.take k)) s+1)=jal (jac l (L.take k)) s+1:=fun s=>jnL (by have:=jbO (jac l (L.take k)) s;omega)
  have hpl:∀s,jal (jac l (L.take k)) s<(jac l (L.take k)).length∨jal (jac l (L.take k)) s<0:=fun s=>jmM _ s
  repeat' first|exact hs _ (jeN (by omega))|exact hx|(have:=hpl (l.getD ((L.getD k default).link-1).toNat ETy.str.dflt);omega)|refine tU ?_|refine qab [] [] rfl ?_|refine qaa ?_ ?_|(refine tI ?_;intro hyp)|intro hyp0|exact tZ|omega
  ·have hb:jam l (L.getD k default).link=emptyS:=(jlG (hyp.imp (fun h=>by omega) id)).trans jih
   obtain⟨h1,h2⟩:=jqn (ja6 hkl) hb
   refine⟨k+1,by omega,by omega,qab [0,1] [] rfl ?_⟩
   rw[h2]at hts
   rw[h1,←hts]
   exact tF
  ·rename_i hh
   have hb:=jky hh.1 hh.2
   obtain⟨h1,h2⟩:=jr7 (ja6 hkl) hb (jgl hh.2) hyp
   refine⟨k+1,by omega,by omega,qab [0,3] [] rfl ?_⟩
   rw[h2]at hts
   rw[h1,←hts]
   exact tF
  ·rename_i hh
   have hb:=jky hh.1 hh.2
   obtain⟨h1,h2⟩:=jr6 (ja6 hkl) hb (jgl hh.2) hyp
   refine⟨k+1,by omega,by omega,qab [0,1] [] rfl ?_⟩
   rw[h2]at hts
   rw[h1,←hts]
   exact tF
 ·have e:L.take k=L:=qac (by omega)
  have e2:L.drop k=[]:=List.drop_eq_nil_of_le (by omega)
  rw[e,e2,List.append_nil]
  have hlm:(L.map (jaF l (jac l L))).length=L.length:=by simp
  repeat' first|refine tU ?_|refine qab [0,1] [] rfl ?_|refine qaa ?_ ?_|(refine tI ?_;intro hyp)|intro hyp0|exact tZ|omega
  all_goals trace_state)
end
section
open Go.RowKit
set_option maxRecDepth 100000
set_option maxHeartbeats 4000000
structure ScrOk (L:List CD) (l:List ByteArray):Prop where
 wf:∀c∈L,CWf c
 len:L.length≤60000
 links:l.length≤60000
 slen:∀s∈l,SLen s
theorem ScrOk.cw {L:List CD}{l:List ByteArray}(h:ScrOk L l):CWs L:=fun c hc=>(h.wf c hc).rune
theorem ScrOk.lk {L:List CD}{l:List ByteArray}(h:ScrOk L l):∀c∈L,0≤c.link∧c.link<65536:=fun c hc=>(h.wf c hc).link
theorem jsH {r:Int}(h:Utf.may r=true):I32 r:=by
 unfold Utf.may at h
 simp only[HB,ne_eq,reduceCtorEq]at h
 constructor<;>omega
theorem jkz {g lb t:Bool}{x k y r mo s:Int}(h:((((((g=false∨lb=false)∨x<0)∨k≤x)∨y<0)∨r≤y)∨2<mo)∨64<s):(g&&lb&&decide (0≤x)&&decide (x<k)&&decide (0≤y)&&decide (y<r)&&decide (mo≤2)&&decide (s≤64)&&t)=false:=by
 rw[Bool.eq_false_iff]
 intro hr
 simp only[HB,ne_eq,reduceCtorEq]at hr
 rcases h with ((((((h|h)|h)|h)|h)|h)|h)|h<;>first|omega|(rw[h]at hr;simp at hr)
theorem jx7 (n:Nat):decide (n≤64)=decide ((n:Int)≤64):=decide_eq_decide.2 (by omega)
abbrev jeO:List AK:=[.agg [.any,.any,.sl .cell,.any,.any,.any,.any,.any,.sl .str]]
abbrev q_eright (k r:Int) (L:List CD) (x y:Int) (hd:Bool) (mo:Int) (ti:ByteArray) (l:List ByteArray):QA:=([.agg [.int .i64 k,.int .i64 r,.vec .cell L,.int .i64 x,.int .i64 y,.bool hd,.int .u8 mo,.str ti,.vec .str l]],ScrOk L l∧SLen ti,.ret (.bool (jai k r L x y mo ti l)))
def sp_eright:=spQ (u9 q_eright)
theorem jcp:W9 (hA sp_eright) q_eright:=w9 (aA rfl)
theorem jsI:Al 41 sp_eright:=ofA (u9 q_eright) fun⟨k,r,L,x,y,hd,mo,ti,l⟩ hG=>tfi (.f jsd jg3 jse (.f [.sl .cell,.sl .str] jgz jsE (.f [.sl (.int .u8)] jiP juA (.f [.any] jfE jo1 .nil)))) 0 jbI (by
 dsimp only[u9,q_eright]at hG ⊢
 have zc:=Hk.mk (qaa @jkr (qaa @jmK (qaa @jnU @jiX)))
 obtain⟨hs,ht⟩:=hG
 have hl:=hs.len
 have hl2:=hs.links
 have hw:List.take ti.size (jab ti)=jab ti:=qac (by rw[jaw];exact Nat.le_refl _)
 have hln:(jab ti).length=ti.size:=jaw ti
 repeat' first|exact hs.cw|exact hs.lk|exact hs.slen|exact jcW ti|refine tU ?_|refine qab [] [] rfl ?_|refine qaa ?_ ?_|(refine tI ?_;intro hyp)|intro hyp0|exact tZ|omega
 ·have q:=hyp
  simp only[jai,jeF,q,Bool.false_and,Bool.and_false]
 rename_i hq
 have hrb:jai k r L x y mo ti l=jeF ti:=by
  obtain⟨⟨⟨⟨⟨⟨⟨q1,q2⟩,q3⟩,q4⟩,q5⟩,q6⟩,q7⟩,q8⟩:=hq
  rw[Bool.eq_iff_iff]
  simp only[jai,HB,ne_eq,reduceCtorEq]
  exact⟨fun h=>h.2,fun h=>⟨⟨⟨⟨⟨⟨⟨⟨q1,q2⟩,by omega⟩,by omega⟩,by omega⟩,by omega⟩,by omega⟩,by omega⟩,h⟩⟩
 have hvb:=hyp
 obtain⟨rs,hrs,hti,hmay⟩:=ji4 ti hvb
 have htb:jeF ti=(List.range rs.length).all (fun i=>Utf.width (rs.getD i 0) != 0):=by rw[hrs];simp only[jeF,hvb,Bool.true_and]
 rw[hrb,htb]
 refine T.loop (fun j:Nat=>⟨[(66,.ptr 0 0 0)],[.iter ti ((rs.take j).flatMap Utf.enc).length]⟩) (fun j=>j≤rs.length∧∀i,i<j→(Utf.width (rs.getD i 0) != 0)=true) (fun j=>rs.length-j) 0 ⟨by omega,fun i hi=>by omega⟩ (qab [2] [] rfl (by simp only[PB,SAM,seval,rdB,Hk.out zc];simp)) (fun j ⟨hj,hall⟩=>?_)
 by_cases hjl:j<rs.length
 ·obtain⟨d1,d2,d3⟩:=jnW ti rs hti hmay (jax (d:=0) hjl)
  have hw:(((rs.take j).flatMap Utf.enc).length<ti.size)=True:=eq_true d1
  have hw2:=d3
  have hw3:((rs.take j).flatMap Utf.enc).length+(Utf8.decode ti ((rs.take j).flatMap Utf.enc).length).2=((rs.take (j+1)).flatMap Utf.enc).length:=by omega
  have hi32:=jsH (hmay _ (List.mem_of_getElem? (jax (d:=0) hjl)))
  repeat' first|exact hi32|refine tU ?_|refine qab [] [] rfl ?_|refine qaa ?_ ?_|(refine tI ?_;intro hyp)|intro hyp0|exact tZ|omega
  ·exact (ja2 hjl (by simpa using hyp)).symm
  ·exact⟨j+1,⟨by omega,jcU (f:=fun i=>Utf.width (rs.getD i 0) != 0) (by simpa using hyp) hall⟩,by omega,qab [0] [] rfl (by exact tF)⟩
 ·have hw:(((rs.take j).flatMap Utf.enc).length<ti.size)=False:=eq_false (by
   rw[qac (by omega),←hti,hln]
   omega)
  repeat' first|refine tU ?_|refine qab [] [] rfl ?_|refine qaa ?_ ?_|(refine tI ?_;intro hyp)|intro hyp0|exact tZ|omega
  exact (jbN (by omega) hall).symm
 ·unfold jai
  rw[jx7]
  exact (jkz hyp).symm)
theorem jeP:Fre 41 sp_eright:=ofF (u9 q_eright) jsI fun _=>rfl
abbrev q_r7runesT (b:List Int):QA:=([.vec (.int .u8) b],(∀a∈b,Utf.Byte a)∧b.length≤100000000,.ret (.vec (.int .i32) (Utf.rrunes b)))
def sp_r7runesT:=spQ (u1 q_r7runesT)
theorem jjZ:W1 (hA sp_r7runesT) q_r7runesT:=w1 (aA rfl)
theorem jn9:Fre 39 sp_r7runesT:=ofT (u1 q_r7runesT) fun b hG=>tfi (.a jrW jbc jrX (.a juw jdC jux .nil)) 0 jiN (by
 dsimp only[u1,q_r7runesT]at hG ⊢
 have zc:=Hk.mk (qaa @jmk @jnR)
 obtain⟨hb,hl⟩:=hG
 repeat' first|refine tU ?_|refine qaa ?_ ?_|(refine tI ?_;intro hyp)|intro hyp0|exact tZ|omega
 refine T.loop (fun k:Nat=>⟨[(0,.vec (.int .u8) b),(3,.slice 0 0 1 (Utf.rtold [] (b.take k)).length (Utf.rtold [] (b.take k)).length),(4,.ptr 1 0 0),(10,.int .i64 b.length),(11,.int .i64 k)],[.seq (.int .i32) (Utf.rtold [] (b.take k)),.box [.vec (.int .u8) (Utf.rafter [] (b.take k))]]⟩) (fun k=>k≤b.length) (fun k=>b.length-k) 0 (by omega) (qab [0,1] [] rfl (by simp only[PB,SAM,seval,rdB,Hk.out zc,Utf.rtold,Utf.rafter])) (fun k hk=>?_)
 have h1:=jnQ (l:=b.take k) (fun a ha=>hb a (List.mem_of_mem_take ha))
 have h2:=jiT hb k
 have h3:=jmj (b.take k) []
 have h4:=jmi (Utf.rafter [] (b.take k)) (b.getD k 0)
 have h5:=jrV (Utf.rafter [] (b.take k))
 have h6:(b.take k).length≤k:=by simp;omega
 repeat' first|refine tU ?_|refine qaa ?_ ?_|(refine tI ?_;intro hyp)|intro hyp0|exact tZ|omega
 ·exact (h1.2 _ hyp).1
 ·exact (h1.2 _ hyp).2
 ·refine⟨k+1,by omega,by omega,qab [3,1] [] rfl ?_⟩
  have e:b.take (k+1)=b.take k++[b.getD k 0]:=jmg (by omega)
  simp only[PB,SAM,seval,rdB,Hk.out zc,e,jkg,jiV]
  simp
 ·have e:b.take k=b:=qac (by omega)
  rw[e]
  exact qab [2] [] rfl (by simp only[Utf.rrunes];exact tF))
theorem jhF:∀rs:List Int,rs.length≤(rs.flatMap Utf.enc).length
 | []=>by simp
 | a::rs=>by
  have h1:=jhF rs
  have h2:=List.length_pos_iff.2 (Utf.enc_ne a)
  simp only[List.flatMap_cons,List.length_append,qad]
  omega
theorem jjp {k r:Int}{L:List CD}{x y mo:Int}{ti:ByteArray}{l:List ByteArray}(hs:ScrOk L l):jai k r L x y mo ti l=(jbo k r L&&jfJ L l&&decide (0≤x)&&decide (x<k)&&decide (0≤y)&&decide (y<r)&&decide (mo≤2)&&decide (ti.size≤64)&&jeF ti):=by
 unfold jai
 rw[juE L l fun q hq=>(hs.lk q hq).1]
abbrev jcY:List AK:=[.agg [.any,.any,.sl .cell,.any,.any,.any,.any,.any,.sl .str]]
abbrev q_r12right (k r:Int) (L:List CD) (x y:Int) (hd:Bool) (mo:Int) (ti:ByteArray) (l:List ByteArray):QA:=([.agg [.int .i64 k,.int .i64 r,.vec .cell L,.int .i64 x,.int .i64 y,.bool hd,.int .u8 mo,.str ti,.vec .str l]],ScrOk L l∧SLen ti,.ret (.bool (jai k r L x y mo ti l)))
def sp_r12right:=spQ (u9 q_r12right)
theorem jbv:W9 (hA sp_r12right) q_r12right:=w9 (aA rfl)
theorem joa:Al 20 sp_r12right:=ofA (u9 q_r12right) fun⟨k,r,L,x,y,hd,mo,ti,l⟩ hG=>tfi (.a jwQ jko jwR (.f [.sl .cell,.sl .str] jjl jqC (.f [.sl (.int .u8)] jiO jqa (.f [.any] jfD jke (.f [.sl (.int .u8)] jiN jn9 .nil))))) 0 jb7 (by
 dsimp only[u9,q_r12right]at hG ⊢
 have zc:=Hk.mk (qaa @jqo (qaa @jlH (qaa @jln (qaa @jgg @jjZ))))
 obtain⟨hs,ht⟩:=hG
 have hl:=hs.len
 have hl2:=hs.links
 have hw:List.take ti.size (jab ti)=jab ti:=qac (by rw[jaw];exact Nat.le_refl _)
 have hln:(jab ti).length=ti.size:=jaw ti
 rw[jjp hs]
 repeat' first|exact hs.cw|exact hs.lk|exact hs.slen|exact jcW ti|refine tU ?_|refine qab [] [] rfl ?_|refine qaa ?_ ?_|(refine tI ?_;intro hyp)|intro hyp0|exact tZ|omega
 ·rw[hyp]
  simp only[Bool.false_and]
 ·rw[jeF,hyp,Bool.false_and,Bool.and_false]
 ·rename_i hq
  have hvb:=hyp
  obtain⟨rs,hrs,hti,hmay⟩:=ji4 ti hvb
  have hrr:Utf.rrunes (jab ti)=rs:=by rw[←Utf.runes_eq _ (jcW ti),hrs]
  have htb:jeF ti=(List.range rs.length).all (fun i=>Utf.width (rs.getD i 0) != 0):=by rw[hrs];simp only[jeF,hvb,Bool.true_and]
  have hrb:jai k r L x y mo ti l=jeF ti:=by
   rw[jjp hs,Bool.eq_iff_iff]
   simp only[HB,ne_eq,reduceCtorEq]
   obtain⟨⟨⟨⟨⟨⟨q2,q3⟩,q4⟩,q5⟩,q6⟩,q7⟩,q8⟩:=hq
   exact⟨fun h=>h.2,fun h=>⟨⟨⟨⟨⟨⟨⟨⟨by assumption,q2⟩,by omega⟩,by omega⟩,by omega⟩,by omega⟩,by omega⟩,by omega⟩,h⟩⟩
  rw[←jjp hs,hrb,htb,hrr]
  have hrl:rs.length≤ti.size:=by
   have:=jhF rs
   rw[←hti,hln]at this
   exact this
  refine T.loop (fun j:Nat=>⟨[(5,.vec (.int .i32) rs),(73,.int .i64 rs.length),(74,.int .i64 j)],[]⟩) (fun j=>j≤rs.length∧∀i,i<j→(Utf.width (rs.getD i 0) != 0)=true) (fun j=>rs.length-j) 0 ⟨by omega,fun i hi=>by omega⟩ (qab [] [] rfl (by exact tG)) (fun j ⟨hj,hall⟩=>?_)
  by_cases hjl:j<rs.length
  ·have hi32:=jsH (hmay _ (List.mem_of_getElem? (jax (d:=0) hjl)))
   repeat' first|exact hi32|refine tU ?_|refine qab [] [] rfl ?_|refine qaa ?_ ?_|(refine tI ?_;intro hyp)|intro hyp0|exact tZ|omega
   ·exact (ja2 hjl (by simpa using hyp)).symm
   ·exact⟨j+1,⟨by omega,jcU (f:=fun i=>Utf.width (rs.getD i 0) != 0) (by simpa using hyp) hall⟩,by omega,qab [] [] rfl (by exact tF)⟩
  ·repeat' first|refine tU ?_|refine qab [] [] rfl ?_|refine qaa ?_ ?_|(refine tI ?_;intro hyp)|intro hyp0|exact tZ|omega
   exact (jbN (by omega) hall).symm
 ·rw[jx7]
  exact (jkz (by simp_all)).symm)
theorem jcZ:Fre 20 sp_r12right:=ofF (u9 q_r12right) joa fun _=>rfl
end
end
end Go.Proofs.YtienkkicehmchaaGreatDoor
