/- Texts of this claim, merged by a program of this claim: FLinks2, FScr, KFits, FitsM, FFits. -/
import Derived.Test.YtienkkicehmchaaGreatDoorDo11
import Derived.Test.YtienkkicehmchaaGreatDoorDo12
import Derived.Test.YtienkkicehmchaaGreatDoorDo14
import Derived.Test.YtienkkicehmchaaGreatDoorDo5
import Derived.Test.YtienkkicehmchaaGreatDoorDo6
import Derived.Test.YtienkkicehmchaaGreatDoorDo9
namespace Go.Proofs.YtienkkicehmchaaGreatDoor
open And renaming intro→qaa
open Cos renaming intro→qab
open List renaming take_of_length_le→qac,length_cons→qad
noncomputable section
set_option linter.unusedVariables false
set_option linter.unusedSimpArgs false
section
open Go.RowKit
set_option maxRecDepth 100000
set_option maxHeartbeats 4000000
theorem jBD {α:Type}{A L:List α}{k:Nat}{a:α}(hA:A.length=k) (h:k<L.length):(A++L.drop k).set k a=A++[a]++L.drop (k+1):=by
 rw[List.set_append_right _ _ (by omega),hA,Nat.sub_self,List.drop_eq_getElem_cons h,List.set_cons_zero]
 simp
theorem jr6 {α:Type}{A L:List α}{k:Nat}{d:α}(hA:A.length=k):(A++L.drop k).getD k d=L.getD k d:=by
 rw[List.getD_eq_getElem?_getD,List.getD_eq_getElem?_getD,List.getElem?_append_right (by omega),hA,Nat.sub_self,List.getElem?_drop,Nat.add_zero]
theorem jlt {l:List ByteArray}{v:Int}(h:¬v<1∧¬(l.length:Int)<v) (hb:jca (l.getD (v-1).toNat ETy.str.dflt)=true):jaw l v=l.getD (v-1).toNat ETy.str.dflt:=jnU (by omega) hb
theorem jnY:∀(m:List ByteArray) (s:ByteArray),jaq m s<m.length∨jaq m s<0
 | [],s=>Or.inr (by simp[jaq])
 | x::m,s=>by
  have:=jnY m s
  simp only[jaq]
  split
  ·simp
  ·simp only[qad]
   split<;>omega
abbrev q_lcanon (L:List CD) (l:List ByteArray):QA:=([.vec .cell L,.vec .str l],L.length≤60000∧l.length≤60000∧(∀s∈l,SLen s)∧(∀c∈L,0≤c.link∧c.link<65536),.ret (.tup [.vec .cell (L.map (jaH l (jab l L))),.vec .str (jab l L)]))
def sp_lcanon:=spQ (u2 q_lcanon)
theorem jnZ:W2 (hA sp_lcanon) q_lcanon:=w2 (aA rfl)
theorem jul:Fre 192 sp_lcanon:=ofT (u2 q_lcanon) fun⟨L,l⟩ hG=>tfi (.t [.sl .cell] jau jdM (.f [.any] jeT jph (.f [.sl .str,.any] jba jkd .nil))) 0 jhs (by
 dsimp only[u2,q_lcanon]at hG ⊢
 have zc:=Hk.mk (qaa @jbz (qaa @jic (qaa @jfx (qaa @List.drop_replicate.{0} @List.set_set.{0}))))
 obtain⟨hL,hl,hs,hc⟩:=hG
 repeat' first|refine tU ?_|refine qab [] [] rfl ?_|refine qaa ?_ ?_|(refine tI ?_;intro hyp)|intro hyp0|exact tZ|omega
 refine T.loop (fun k:Nat=>⟨[(1,.vec .str l),(6,.slice 0 0 6 L.length L.length),(7,.slice 1 0 1 (jab l (L.take k)).length (jab l (L.take k)).length),(14,.int .i64 L.length),(15,.int .i64 k)],[.seq .cell ((L.take k).map (jaH l (jab l L))++L.drop k),.seq .str (jab l (L.take k))]⟩) (fun k=>k≤L.length) (fun k=>L.length-k) 0 (by omega) (qab [0,99] [] rfl (by simp only[PB,SAM,seval,rdB,Hk.out zc];simp[jab,crs,crsL,jaM])) (fun k hk=>?_)
 have hlen:(jab l (L.take k)).length≤60000:=by
  have:=jh5 l (L.take k)
  rw[List.length_take]at this
  omega
 have hml:((L.take k).map (jaH l (jab l L))).length=k:=by simp;omega
 have hal:((L.take k).map (jaH l (jab l L))++L.drop k).length=L.length:=by simp;omega
 by_cases hkl:k<L.length
 ·have hck:=hc _ (jbp hkl)
  have hw:((L.take k).map (jaH l (jab l L))++L.drop k).getD k default=L.getD k default:=jr6 hml
  have hw2:∀a:CD,(((L.take k).map (jaH l (jab l L))++L.drop k).set k a).getD k default=a:=fun a=>jeU (by omega)
  have hts:((L.take k).map (jaH l (jab l L))++L.drop k).set k (jaH l (jab l L) (L.getD k default))=(L.take (k+1)).map (jaH l (jab l L))++L.drop (k+1):=by
   rw[jav (jcd hkl),List.map_append,jBD hml hkl]
   rfl
  have hx:k<((L.take k).map (jaH l (jab l L))).length+(L.drop k).length:=by simp;omega
  have hw3:IntKind.u16.wrap (((jab l (L.take k)).length:Int)+1)=((jab l (L.take k)).length:Int)+1:=joP (by omega)
  have hw4:∀s,IntKind.u16.wrap (jaq (jab l (L.take k)) s+1)=jaq (jab l (L.take k)) s+1:=fun s=>joP (by have:=jcF (jab l (L.take k)) s;omega)
  have hpl:∀s,jaq (jab l (L.take k)) s<(jab l (L.take k)).length∨jaq (jab l (L.take k)) s<0:=fun s=>jnY _ s
  repeat' first|exact hs _ (jht (by omega))|exact hx|(have:=hpl (l.getD ((L.getD k default).link-1).toNat ETy.str.dflt);omega)|refine tU ?_|refine qab [] [] rfl ?_|refine qaa ?_ ?_|(refine tI ?_;intro hyp)|intro hyp0|exact tZ|omega
  ·have hb:jaw l (L.getD k default).link=emptyS:=(jmH (hyp.imp (fun h=>by omega) id)).trans ji9
   obtain⟨h1,h2⟩:=jrQ (jcd hkl) hb
   refine⟨k+1,by omega,by omega,qab [0,1] [] rfl ?_⟩
   rw[h2]at hts
   rw[h1,←hts]
   exact tF
  ·rename_i hh
   have hb:=jlt hh.1 hh.2
   obtain⟨h1,h2⟩:=jtE (jcd hkl) hb (ji3 hh.2) hyp
   refine⟨k+1,by omega,by omega,qab [0,3] [] rfl ?_⟩
   rw[h2]at hts
   rw[h1,←hts]
   exact tF
  ·rename_i hh
   have hb:=jlt hh.1 hh.2
   obtain⟨h1,h2⟩:=jtD (jcd hkl) hb (ji3 hh.2) hyp
   refine⟨k+1,by omega,by omega,qab [0,1] [] rfl ?_⟩
   rw[h2]at hts
   rw[h1,←hts]
   exact tF
 ·have e:L.take k=L:=qac (by omega)
  have e2:L.drop k=[]:=List.drop_eq_nil_of_le (by omega)
  rw[e,e2,List.append_nil]
  have hlm:(L.map (jaH l (jab l L))).length=L.length:=by simp
  repeat' first|refine tU ?_|refine qab [0,1] [] rfl ?_|refine qaa ?_ ?_|(refine tI ?_;intro hyp)|intro hyp0|exact tZ|omega
  all_goals trace_state)
end
section
open Go.RowKit
set_option maxRecDepth 100000
set_option maxHeartbeats 4000000
structure ScrOk (L:List CD) (l:List ByteArray):Prop where
 wf:∀c∈L,CWf c
 len:L.length≤60000
 links:l.length≤60000
 slen:∀s∈l,SLen s
theorem ScrOk.cw {L:List CD}{l:List ByteArray}(h:ScrOk L l):CWs L:=fun c hc=>(h.wf c hc).rune
theorem ScrOk.lk {L:List CD}{l:List ByteArray}(h:ScrOk L l):∀c∈L,0≤c.link∧c.link<65536:=fun c hc=>(h.wf c hc).link
theorem jum {r:Int}(h:Utf.may r=true):I32 r:=by
 unfold Utf.may at h
 simp only[HB,ne_eq,reduceCtorEq]at h
 constructor<;>omega
theorem jlv {g lb t:Bool}{x k y r mo s:Int}(h:((((((g=false∨lb=false)∨x<0)∨k≤x)∨y<0)∨r≤y)∨2<mo)∨64<s):(g&&lb&&decide (0≤x)&&decide (x<k)&&decide (0≤y)&&decide (y<r)&&decide (mo≤2)&&decide (s≤64)&&t)=false:=by
 rw[Bool.eq_false_iff]
 intro hr
 simp only[HB,ne_eq,reduceCtorEq]at hr
 rcases h with ((((((h|h)|h)|h)|h)|h)|h)|h<;>first|omega|(rw[h]at hr;simp at hr)
theorem jAU (n:Nat):decide (n≤64)=decide ((n:Int)≤64):=decide_eq_decide.2 (by omega)
abbrev jep:List AK:=[.agg [.any,.any,.sl .cell,.any,.any,.any,.any,.any,.sl .str]]
abbrev q_eright (k r:Int) (L:List CD) (x y:Int) (hd:Bool) (mo:Int) (ti:ByteArray) (l:List ByteArray):QA:=([.agg [.int .i64 k,.int .i64 r,.vec .cell L,.int .i64 x,.int .i64 y,.bool hd,.int .u8 mo,.str ti,.vec .str l]],ScrOk L l∧SLen ti,.ret (.bool (jal k r L x y mo ti l)))
def sp_eright:=spQ (u9 q_eright)
theorem jb2:W9 (hA sp_eright) q_eright:=w9 (aA rfl)
theorem jun:Al 41 sp_eright:=ofA (u9 q_eright) fun⟨k,r,L,x,y,hd,mo,ti,l⟩ hG=>tfi (.f jtL jh6 jtM (.f [.sl .cell,.sl .str] jhr juj (.f [.sl (.int .u8)] jjM jwI (.f [.any] jeN jmw .nil)))) 0 jbG (by
 dsimp only[u9,q_eright]at hG ⊢
 have zc:=Hk.mk (qaa @jll (qaa @jnW (qaa @jo0 @jgz)))
 obtain⟨hs,ht⟩:=hG
 have hl:=hs.len
 have hl2:=hs.links
 have hw:List.take ti.size (jac ti)=jac ti:=qac (by rw[jay];exact Nat.le_refl _)
 have hln:(jac ti).length=ti.size:=jay ti
 repeat' first|exact hs.cw|exact hs.lk|exact hs.slen|exact jdj ti|refine tU ?_|refine qab [] [] rfl ?_|refine qaa ?_ ?_|(refine tI ?_;intro hyp)|intro hyp0|exact tZ|omega
 ·have q:=hyp
  simp only[jal,jfr,q,Bool.false_and,Bool.and_false]
 rename_i hq
 have hrb:jal k r L x y mo ti l=jfr ti:=by
  obtain⟨⟨⟨⟨⟨⟨⟨q1,q2⟩,q3⟩,q4⟩,q5⟩,q6⟩,q7⟩,q8⟩:=hq
  rw[Bool.eq_iff_iff]
  simp only[jal,HB,ne_eq,reduceCtorEq]
  exact⟨fun h=>h.2,fun h=>⟨⟨⟨⟨⟨⟨⟨⟨q1,q2⟩,by omega⟩,by omega⟩,by omega⟩,by omega⟩,by omega⟩,by omega⟩,h⟩⟩
 have hvb:=hyp
 obtain⟨rs,hrs,hti,hmay⟩:=jjZ ti hvb
 have htb:jfr ti=(List.range rs.length).all (fun i=>Utf.width (rs.getD i 0) != 0):=by rw[hrs];simp only[jfr,hvb,Bool.true_and]
 rw[hrb,htb]
 refine T.loop (fun j:Nat=>⟨[(66,.ptr 0 0 0)],[.iter ti ((rs.take j).flatMap Utf.enc).length]⟩) (fun j=>j≤rs.length∧∀i,i<j→(Utf.width (rs.getD i 0) != 0)=true) (fun j=>rs.length-j) 0 ⟨by omega,fun i hi=>by omega⟩ (qab [2] [] rfl (by simp only[PB,SAM,seval,rdB,Hk.out zc];simp)) (fun j ⟨hj,hall⟩=>?_)
 by_cases hjl:j<rs.length
 ·obtain⟨d1,d2,d3⟩:=jo4 ti rs hti hmay (jaW (d:=0) hjl)
  have hw:(((rs.take j).flatMap Utf.enc).length<ti.size)=True:=eq_true d1
  have hw2:=d3
  have hw3:((rs.take j).flatMap Utf.enc).length+(Utf8.decode ti ((rs.take j).flatMap Utf.enc).length).2=((rs.take (j+1)).flatMap Utf.enc).length:=by omega
  have hi32:=jum (hmay _ (List.mem_of_getElem? (jaW (d:=0) hjl)))
  repeat' first|exact hi32|refine tU ?_|refine qab [] [] rfl ?_|refine qaa ?_ ?_|(refine tI ?_;intro hyp)|intro hyp0|exact tZ|omega
  ·exact (jbb hjl (by simpa using hyp)).symm
  ·exact⟨j+1,⟨by omega,jdh (f:=fun i=>Utf.width (rs.getD i 0) != 0) (by simpa using hyp) hall⟩,by omega,qab [0] [] rfl (by exact tF)⟩
 ·have hw:(((rs.take j).flatMap Utf.enc).length<ti.size)=False:=eq_false (by
   rw[qac (by omega),←hti,hln]
   omega)
  repeat' first|refine tU ?_|refine qab [] [] rfl ?_|refine qaa ?_ ?_|(refine tI ?_;intro hyp)|intro hyp0|exact tZ|omega
  exact (jb9 (by omega) hall).symm
 ·unfold jal
  rw[jAU]
  exact (jlv hyp).symm)
theorem jeq:Fre 41 sp_eright:=ofF (u9 q_eright) jun fun _=>rfl
abbrev q_r7runesT (b:List Int):QA:=([.vec (.int .u8) b],(∀a∈b,Utf.Byte a)∧b.length≤100000000,.ret (.vec (.int .i32) (Utf.rrunes b)))
def sp_r7runesT:=spQ (u1 q_r7runesT)
theorem jkS:W1 (hA sp_r7runesT) q_r7runesT:=w1 (aA rfl)
theorem jpj:Fre 39 sp_r7runesT:=ofT (u1 q_r7runesT) fun b hG=>tfi (.a jtt jbt jtu (.a jwE jed jwF .nil)) 0 jjK (by
 dsimp only[u1,q_r7runesT]at hG ⊢
 have zc:=Hk.mk (qaa @jnA @joX)
 obtain⟨hb,hl⟩:=hG
 repeat' first|refine tU ?_|refine qaa ?_ ?_|(refine tI ?_;intro hyp)|intro hyp0|exact tZ|omega
 refine T.loop (fun k:Nat=>⟨[(0,.vec (.int .u8) b),(3,.slice 0 0 1 (Utf.rtold [] (b.take k)).length (Utf.rtold [] (b.take k)).length),(4,.ptr 1 0 0),(10,.int .i64 b.length),(11,.int .i64 k)],[.seq (.int .i32) (Utf.rtold [] (b.take k)),.box [.vec (.int .u8) (Utf.rafter [] (b.take k))]]⟩) (fun k=>k≤b.length) (fun k=>b.length-k) 0 (by omega) (qab [0,1] [] rfl (by simp only[PB,SAM,seval,rdB,Hk.out zc,Utf.rtold,Utf.rafter])) (fun k hk=>?_)
 have h1:=joW (l:=b.take k) (fun a ha=>hb a (List.mem_of_mem_take ha))
 have h2:=jjQ hb k
 have h3:=jnz (b.take k) []
 have h4:=jny (Utf.rafter [] (b.take k)) (b.getD k 0)
 have h5:=jts (Utf.rafter [] (b.take k))
 have h6:(b.take k).length≤k:=by simp;omega
 repeat' first|refine tU ?_|refine qaa ?_ ?_|(refine tI ?_;intro hyp)|intro hyp0|exact tZ|omega
 ·exact (h1.2 _ hyp).1
 ·exact (h1.2 _ hyp).2
 ·refine⟨k+1,by omega,by omega,qab [3,1] [] rfl ?_⟩
  have e:b.take (k+1)=b.take k++[b.getD k 0]:=jnw (by omega)
  simp only[PB,SAM,seval,rdB,Hk.out zc,e,jla,jjS]
  simp
 ·have e:b.take k=b:=qac (by omega)
  rw[e]
  exact qab [2] [] rfl (by simp only[Utf.rrunes];exact tF))
theorem jiD:∀rs:List Int,rs.length≤(rs.flatMap Utf.enc).length
 | []=>by simp
 | a::rs=>by
  have h1:=jiD rs
  have h2:=List.length_pos_iff.2 (Utf.enc_ne a)
  simp only[List.flatMap_cons,List.length_append,qad]
  omega
theorem jkf {k r:Int}{L:List CD}{x y mo:Int}{ti:ByteArray}{l:List ByteArray}(hs:ScrOk L l):jal k r L x y mo ti l=(jbo k r L&&jgC L l&&decide (0≤x)&&decide (x<k)&&decide (0≤y)&&decide (y<r)&&decide (mo≤2)&&decide (ti.size≤64)&&jfr ti):=by
 unfold jal
 rw[jwO L l fun q hq=>(hs.lk q hq).1]
abbrev jgJ:List AK:=[.agg [.any,.any,.sl .cell,.any,.any,.any,.any,.any,.sl .str]]
abbrev q_r12right (k r:Int) (L:List CD) (x y:Int) (hd:Bool) (mo:Int) (ti:ByteArray) (l:List ByteArray):QA:=([.agg [.int .i64 k,.int .i64 r,.vec .cell L,.int .i64 x,.int .i64 y,.bool hd,.int .u8 mo,.str ti,.vec .str l]],ScrOk L l∧SLen ti,.ret (.bool (jal k r L x y mo ti l)))
def sp_r12right:=spQ (u9 q_r12right)
theorem jd1:W9 (hA sp_r12right) q_r12right:=w9 (aA rfl)
theorem jpk:Al 20 sp_r12right:=ofA (u9 q_r12right) fun⟨k,r,L,x,y,hd,mo,ti,l⟩ hG=>tfi (.a jzg jlh jzh (.f [.sl .cell,.sl .str] jkb jr5 (.f [.sl (.int .u8)] jjL jrE (.f [.any] jgx jk8 (.f [.sl (.int .u8)] jjK jpj .nil))))) 0 jeV (by
 dsimp only[u9,q_r12right]at hG ⊢
 have zc:=Hk.mk (qaa @jrR (qaa @jmI (qaa @jmu (qaa @jhg @jkS))))
 obtain⟨hs,ht⟩:=hG
 have hl:=hs.len
 have hl2:=hs.links
 have hw:List.take ti.size (jac ti)=jac ti:=qac (by rw[jay];exact Nat.le_refl _)
 have hln:(jac ti).length=ti.size:=jay ti
 rw[jkf hs]
 repeat' first|exact hs.cw|exact hs.lk|exact hs.slen|exact jdj ti|refine tU ?_|refine qab [] [] rfl ?_|refine qaa ?_ ?_|(refine tI ?_;intro hyp)|intro hyp0|exact tZ|omega
 ·rw[hyp]
  simp only[Bool.false_and]
 ·rw[jfr,hyp,Bool.false_and,Bool.and_false]
 ·rename_i hq
  have hvb:=hyp
  obtain⟨rs,hrs,hti,hmay⟩:=jjZ ti hvb
  have hrr:Utf.rrunes (jac ti)=rs:=by rw[←Utf.runes_eq _ (jdj ti),hrs]
  have htb:jfr ti=(List.range rs.length).all (fun i=>Utf.width (rs.getD i 0) != 0):=by rw[hrs];simp only[jfr,hvb,Bool.true_and]
  have hrb:jal k r L x y mo ti l=jfr ti:=by
   rw[jkf hs,Bool.eq_iff_iff]
   simp only[HB,ne_eq,reduceCtorEq]
   obtain⟨⟨⟨⟨⟨⟨q2,q3⟩,q4⟩,q5⟩,q6⟩,q7⟩,q8⟩:=hq
   exact⟨fun h=>h.2,fun h=>⟨⟨⟨⟨⟨⟨⟨⟨by assumption,q2⟩,by omega⟩,by omega⟩,by omega⟩,by omega⟩,by omega⟩,by omega⟩,h⟩⟩
  rw[←jkf hs,hrb,htb,hrr]
  have hrl:rs.length≤ti.size:=by
   have:=jiD rs
   rw[←hti,hln]at this
   exact this
  refine T.loop (fun j:Nat=>⟨[(5,.vec (.int .i32) rs),(73,.int .i64 rs.length),(74,.int .i64 j)],[]⟩) (fun j=>j≤rs.length∧∀i,i<j→(Utf.width (rs.getD i 0) != 0)=true) (fun j=>rs.length-j) 0 ⟨by omega,fun i hi=>by omega⟩ (qab [] [] rfl (by exact tG)) (fun j ⟨hj,hall⟩=>?_)
  by_cases hjl:j<rs.length
  ·have hi32:=jum (hmay _ (List.mem_of_getElem? (jaW (d:=0) hjl)))
   repeat' first|exact hi32|refine tU ?_|refine qab [] [] rfl ?_|refine qaa ?_ ?_|(refine tI ?_;intro hyp)|intro hyp0|exact tZ|omega
   ·exact (jbb hjl (by simpa using hyp)).symm
   ·exact⟨j+1,⟨by omega,jdh (f:=fun i=>Utf.width (rs.getD i 0) != 0) (by simpa using hyp) hall⟩,by omega,qab [] [] rfl (by exact tF)⟩
  ·repeat' first|refine tU ?_|refine qab [] [] rfl ?_|refine qaa ?_ ?_|(refine tI ?_;intro hyp)|intro hyp0|exact tZ|omega
   exact (jb9 (by omega) hall).symm
 ·rw[jAU]
  exact (jlv (by simp_all)).symm)
theorem jgK:Fre 20 sp_r12right:=ofF (u9 q_r12right) jpk fun _=>rfl
abbrev jw1:List AK:=[.agg [.any,.any,.sl .cell,.any,.any,.any,.any,.any,.sl .str],.agg [.any,.any,.sl .cell,.any,.any,.any,.any,.any,.sl .str]]
abbrev q_ssame (k r:Int) (L:List CD) (x y:Int) (hd:Bool) (mo:Int) (ti:ByteArray) (l:List ByteArray) (k' r':Int) (L':List CD) (x' y':Int) (hd':Bool) (mo':Int) (ti':ByteArray) (l':List ByteArray):QA:=([.agg [.int .i64 k,.int .i64 r,.vec .cell L,.int .i64 x,.int .i64 y,.bool hd,.int .u8 mo,.str ti,.vec .str l],.agg [.int .i64 k',.int .i64 r',.vec .cell L',.int .i64 x',.int .i64 y',.bool hd',.int .u8 mo',.str ti',.vec .str l']],(L.length≤60000∧l.length≤60000)∧(L'.length≤60000∧l'.length≤60000),.ret (.bool (decide (k=k'∧r=r'∧L=L'∧x=x'∧y=y'∧hd=hd'∧mo=mo'∧ti=ti'∧l=l'))))
def sp_ssame:=spQ (u18 q_ssame)
theorem jpl:W18 (hA sp_ssame) q_ssame:=w18 (aA rfl)
theorem jw2:Al 19 sp_ssame:=ofA (u18 q_ssame) fun⟨k,r,L,x,y,hd,mo,ti,l,k',r',L',x',y',hd',mo',ti',l'⟩ hG=>tfi (.f [.sl .str,.sl .str] jib jnS (.f jtN jli jtP .nil)) 0 jlu (by
 dsimp only[u18,q_ssame]at hG ⊢
 have zc:=Hk.mk (qaa @jiC @jnG)
 repeat' first|refine tU ?_|refine qab [] [] rfl ?_|refine qaa ?_ ?_|(refine tI ?_;intro hyp)|intro hyp0|exact tZ|omega
 rw[Bool.eq_iff_iff]
 simp only[HB,ne_eq,reduceCtorEq]
 grind)
theorem jw3:Fre 19 sp_ssame:=ofF (u18 q_ssame) jw2 fun _=>rfl
end
section
open Go.RowKit
set_option maxRecDepth 100000
def z71_0:LC:=.seq (.stm [2] [kF 3 1 1,kL 4 1 3,sd 5 (.cmp .neq 4 (k8 0)),kM 6 5,.g 6 false [kF 7 1 2,kF 8 7 0,kL 9 1 8,sd 10 (.cmp .gtr 9 (.c (.int .u32 256)))] 11 kt 10,kM 12 11,.g 12 false [kF 13 1 2,kF 14 13 1,kL 15 1 14,sd 16 (.cmp .gtr 15 (.c (.int .u32 256)))] 17 kt 16,kM 2 17]) .ret
def z71:LC:=.seq (.stm [1] [sd 1 (.box 0),kM 2 kf]) z71_0
theorem jhu:jad Tryz.prog eqs0 134 z71 [.t 2] 18=true:=by kernel_rfl
def z72_0:LC:=.seq (.stm [2] [kF 3 1 1,kL 4 1 3,sd 5 (.cmp .neq 4 (k8 0)),kM 2 5]) .ret
def z72:LC:=.seq (.stm [1] [sd 1 (.box 0),kM 2 kf]) z72_0
theorem jhv:jad Tryz.prog eqs0 143 z72 [.t 2] 6=true:=by kernel_rfl
def z73_10:LC:=.seq (.stm [0,1,5,7,8,16] [kM 11 1,kM 12 0,kM 13 5,sd 14 (.ixS 6 12 13),sd 15 (.load true 6 14),sd 16 (.callv 11 [15])]) (.cond 16 (.seq (.stm [4] [kM 17 5,kM 4 17]) .ret) .skip)
def z73_8:LC:=.block 1 (.seq (.stm [0,1,5,7,8] [kM 10 8,kM 5 10]) z73_10)
def z73_7:LC:=.seq z73_8 (.stm [0,1,7,8] [sd 18 (.add 8 (ki 1)),kM 8 18])
def z73_4:LC:=.seq (.stm [0,1,7,8,9] [sd 9 (.lt 8 7)]) (.seq (.cond 9 .skip (.exit 0)) z73_7)
def z73_3:LC:=.loop z73_4
def z73_1:LC:=.seq (.stm [0,1,7,8] [kM 6 0,sd 7 (.len false 6),kM 8 (ki 0)]) (.block 0 z73_3)
def z73_0:LC:=.seq z73_1 (.seq (.stm [4] [sd 4 (.mov (ki (-1)))]) .ret)
def z73:LC:=.seq (.stm [0,1] [kM 4 (ki 0)]) z73_0
theorem jcf:jad Tryz.prog eqs0 160 z73 [.t 4] 19=true:=by kernel_rfl
def z74_0:LC:=.seq (.stm [4] [kM 5 0,kM 6 1,sd 7 (.call 160 [5,6]),sd 8 (.cmp .geq 7 (ki 0)),kM 4 8]) .ret
def z74:LC:=.seq (.stm [0,1] [kM 4 kf]) z74_0
theorem ja6:jad Tryz.prog eqs0 133 z74 [.t 4] 9=true:=by kernel_rfl
def z75_0:LC:=.seq (.stm [2] [sd 3 (.load true 9 1),sd 4 (.call 41 [3]),kM 5 4,.g 5 true [kF 6 1 8,kL 7 1 6,sd 8 (.len false 7),sd 9 (.eq 8 (ki 0))] 10 9 kf,kM 11 10,.g 11 true [kF 12 1 6,kL 13 1 12,sd 14 (.eq 13 (k8 0))] 15 14 kf,kM 16 15,.g 16 true [kF 17 1 2,kL 18 1 17,sd 19 (.call 133 [18,(.c (.fn 134 []))]),sd 20 (.un .not 19)] 21 20 kf,kM 2 21]) .ret
def z75:LC:=.seq (.stm [1] [sd 1 (.box 0),kM 2 kf]) z75_0
theorem jdl:jad Tryz.prog eqs0 98 z75 [.t 2] 22=true:=by kernel_rfl
def z76_0:LC:=.seq (.stm [2] [sd 3 (.load true 9 1),sd 4 (.call 41 [3]),kM 5 4,.g 5 true [kF 6 1 8,kL 7 1 6,sd 8 (.len false 7),sd 9 (.eq 8 (ki 0))] 10 9 kf,kM 11 10,.g 11 true [kF 12 1 2,kL 13 1 12,sd 14 (.call 133 [13,(.c (.fn 143 []))]),sd 15 (.un .not 14)] 16 15 kf,kM 2 16]) .ret
def z76:LC:=.seq (.stm [1] [sd 1 (.box 0),kM 2 kf]) z76_0
theorem jdm:jad Tryz.prog eqs0 102 z76 [.t 2] 17=true:=by kernel_rfl
def z77_0:LC:=.seq (.stm [4] [sd 5 (.load true 9 3),sd 6 (.call 98 [5]),kM 4 6]) .ret
def z77:LC:=.seq (.stm [3] [sd 2 (.box 0),sd 3 (.box 1),kM 4 kf]) z77_0
theorem jer:jad Tryz.prog eqs0 46 z77 [.t 4] 7=true:=by kernel_rfl
def z78_0:LC:=.seq (.stm [4] [sd 5 (.load true 9 3),sd 6 (.call 102 [5]),kM 4 6]) .ret
def z78:LC:=.seq (.stm [3] [sd 2 (.box 0),sd 3 (.box 1),kM 4 kf]) z78_0
theorem jdQ:jad Tryz.prog eqs0 50 z78 [.t 4] 7=true:=by kernel_rfl
def z79_0:LC:=.seq (.stm [4] [sd 5 (.load true 9 3),sd 6 (.call 41 [5]),kM 4 6]) .ret
def z79:LC:=.seq (.stm [3] [sd 2 (.box 0),sd 3 (.box 1),kM 4 kf]) z79_0
theorem jes:jad Tryz.prog eqs0 54 z79 [.t 4] 7=true:=by kernel_rfl
def z80_6:LC:=.seq (.stm [2,3] [sd 11 (.load true 0 4),sd 12 (.mkm 46 11),sd 13 (.load true 0 4),sd 14 (.mkm 47 13),sd 15 (.load true 0 4),sd 16 (.mkm 48 15),sd 17 (.load true 0 4),sd 18 (.mkm 49 17),sd 19 (.build [.nilfn,.nilfn,.nilfn,.nilfn] [(0,1,12),(1,1,14),(2,1,16),(3,1,18)]),sn (.store 4 2 19),kM 3 kt]) .ret
def z80_5:LC:=.seq (.stm [2,4] [sd 10 (.build [] []),sd 4 (.zero []),sn (.store 0 4 10)]) z80_6
def z80_10:LC:=.seq (.stm [2,3] [sd 23 (.load true 0 5),sd 24 (.mkm 50 23),sd 25 (.load true 0 5),sd 26 (.mkm 51 25),sd 27 (.load true 0 5),sd 28 (.mkm 52 27),sd 29 (.load true 0 5),sd 30 (.mkm 53 29),sd 31 (.build [.nilfn,.nilfn,.nilfn,.nilfn] [(0,1,24),(1,1,26),(2,1,28),(3,1,30)]),sn (.store 4 2 31),kM 3 kt]) .ret
def z80_9:LC:=.seq (.stm [2,5] [sd 22 (.build [] []),sd 5 (.zero []),sn (.store 0 5 22)]) z80_10
def z80_14:LC:=.seq (.stm [2,3] [sd 35 (.load true 0 6),sd 36 (.mkm 54 35),sd 37 (.load true 0 6),sd 38 (.mkm 55 37),sd 39 (.load true 0 6),sd 40 (.mkm 56 39),sd 41 (.load true 0 6),sd 42 (.mkm 57 41),sd 43 (.build [.nilfn,.nilfn,.nilfn,.nilfn] [(0,1,36),(1,1,38),(2,1,40),(3,1,42)]),sn (.store 4 2 43),kM 3 kt]) .ret
def z80_13:LC:=.seq (.stm [2,6] [sd 34 (.build [] []),sd 6 (.zero []),sn (.store 0 6 34)]) z80_14
def z80_11:LC:=.seq (.stm [2,32] [sd 33 (.eq 7 (ki 3)),kM 32 33]) (.cond 32 z80_13 .skip)
def z80_7:LC:=.seq (.stm [2,7,20] [sd 21 (.eq 7 (ki 2)),kM 20 21]) (.cond 20 z80_9 z80_11)
def z80_3:LC:=.seq (.stm [2,7,8] [sd 9 (.eq 7 (ki 1)),kM 8 9]) (.cond 8 z80_5 z80_7)
def z80_15:LC:=.seq (.stm [2,3] [sd 44 (.build [.nilfn,.nilfn,.nilfn,.nilfn] []),sn (.store 4 2 44),kM 3 kf]) .ret
def z80_0:LC:=.seq (.seq (.stm [2,7] [kM 7 0]) (.block 0 z80_3)) z80_15
def z80:LC:=.seq (.stm [0,2] [sd 2 (.zero [.nilfn,.nilfn,.nilfn,.nilfn]),kM 3 kf]) z80_0
theorem jhw:jad Tryz.prog eqs0 24 z80 [.c 2 true 4,.t 3] 45=true:=by kernel_rfl
def z81_1:LC:=.seq (.stm [4] [kM 12 6,kM 13 12,.b 13 true [kF 14 5 0,kL 15 1 14,sd 16 (.load true 9 3),sd 17 (.callv 15 [16])] 18 17 kf,kM 4 18]) .ret
def z81_0:LC:=.seq (.stm [3,5,6] [kM 8 0,sd 9 (.call 24 [8]),kM 7 9,sd 10 (.ext 7 0),sd 11 (.ext 7 1),sd 5 (.zero [.nilfn,.nilfn,.nilfn,.nilfn]),sn (.store 4 5 10),kM 6 11]) z81_1
def z81:LC:=.seq (.stm [0,3] [sd 3 (.box 1),kM 4 kf]) z81_0
theorem jkg:jad Tryz.prog eqs0 15 z81 [.t 4] 19=true:=by kernel_rfl
end
section
def fit1 (c:CD):Bool:=c.wide==0&&decide (c.fg≤256)&&decide (c.bg≤256)
def fit2 (c:CD):Bool:=c.wide==0
def jaC (k r:Int) (L:List CD) (x y mo:Int) (ti:ByteArray) (l:List ByteArray):Bool:=jal k r L x y mo ti l&&decide (l.length=0)&&(mo==0)&&L.all fit1
def jaB (k r:Int) (L:List CD) (x y mo:Int) (ti:ByteArray) (l:List ByteArray):Bool:=jal k r L x y mo ti l&&decide (l.length=0)&&L.all fit2
def jbf (v k r:Int) (L:List CD) (x y mo:Int) (ti:ByteArray) (l:List ByteArray):Bool :=
 if v=1 then jaC k r L x y mo ti l else if v=2 then jaB k r L x y mo ti l else if v=3 then jal k r L x y mo ti l else false
end
section
open Go.RowKit
set_option maxRecDepth 100000
set_option maxHeartbeats 4000000
def bad1 (c:CD):Bool:=!fit1 c
def bad2 (c:CD):Bool:=!fit2 c
def f1:FuncId:=134
def f2:FuncId:=143
def badF (F:FuncId):CD→Bool:=if F=f1 then bad1 else bad2
def idxB (p:CD→Bool) (L:List CD):Int:=if L.any p then ((L.findIdx p:Nat):Int) else -1
theorem bF1:badF 134=bad1:=if_pos rfl
theorem bF2:badF 143=bad2:=if_neg (by decide)
theorem jaA:idf .nilfn=true:=rfl
theorem ja7 (F:FuncId):idf (.mfn F)=true:=rfl
def wayV (v:Int):CV :=
 if v=1 then .agg [.mfn 46,.mfn 47,.mfn 48,.mfn 49]
 else if v=2 then .agg [.mfn 50,.mfn 51,.mfn 52,.mfn 53]
 else if v=3 then .agg [.mfn 54,.mfn 55,.mfn 56,.mfn 57]
 else .agg [.nilfn,.nilfn,.nilfn,.nilfn]
theorem jbL (F:FuncId):idf (.fn F [])=true:=rfl
abbrev q_fbad1 (c:CD):QA:=([jbg c],True,.ret (.bool (bad1 c)))
def sp_fbad1:=spQ (u1 q_fbad1)
theorem jpm:W1 (hA sp_fbad1) q_fbad1:=w1 (aA rfl)
theorem jw4:Al 134 sp_fbad1:=ofA (u1 q_fbad1) fun c hG=>tfi .nil 0 jhu (by
 dsimp only[u1,q_fbad1]at hG ⊢
 have zc:=Hk.mk (qaa @bF1 (qaa @bF2 (qaa @jbL (qaa @ja7 @jaA))))
 repeat' first|refine tU ?_|refine qab [] [] rfl ?_|refine qaa ?_ ?_|(refine tI ?_;intro hyp)|intro hyp0|exact tZ|omega
 all_goals (simp only[bad1,fit1];grind))
theorem jw5:Fre 134 sp_fbad1:=ofF (u1 q_fbad1) jw4 fun _=>rfl
abbrev q_fbad2 (c:CD):QA:=([jbg c],True,.ret (.bool (bad2 c)))
def sp_fbad2:=spQ (u1 q_fbad2)
theorem jpn:W1 (hA sp_fbad2) q_fbad2:=w1 (aA rfl)
theorem jw6:Al 143 sp_fbad2:=ofA (u1 q_fbad2) fun c hG=>tfi .nil 0 jhv (by
 dsimp only[u1,q_fbad2]at hG ⊢
 have zc:=Hk.mk (qaa @bF1 (qaa @bF2 (qaa @jbL (qaa @ja7 @jaA))))
 repeat' first|refine tU ?_|refine qab [] [] rfl ?_|refine qaa ?_ ?_|(refine tI ?_;intro hyp)|intro hyp0|exact tZ|omega
 simp[bad2,fit2,ibeq])
theorem jw7:Fre 143 sp_fbad2:=ofF (u1 q_fbad2) jw6 fun _=>rfl
theorem jx9 {f:Nat→Bool}{k:Nat}(h:f k=false) (hall:∀j,j<k→f j=false):∀j,j<k+1→f j=false:=fun j hj=>by
 by_cases e:j=k
 ·rw[e];exact h
 ·exact hall j (by omega)
theorem juo {p:CD→Bool}{L:List CD}{k:Nat}(hk:k<L.length) (hall:∀j,j<k→p (L.getD j default)=false) (h:p (L.getD k default)=true):(k:Int)=idxB p L:=by
 have e:L.getD k default=L[k]:=by simp[hk]
 rw[e]at h
 have h1:L.any p=true:=List.any_eq_true.2 ⟨_,List.getElem_mem hk,h⟩
 have h2:L.findIdx p=k:=by
  rw[List.findIdx_eq hk]
  refine⟨h,fun j hj=>?_⟩
  have:=hall j hj
  rw[List.getD_eq_getElem?_getD,List.getElem?_eq_getElem (by omega)]at this
  simpa using this
 unfold idxB
 rw[if_pos h1,h2]
theorem jya {p:CD→Bool}{L:List CD}{k:Nat}(hk:L.length≤k) (hall:∀j,j<k→p (L.getD j default)=false):-1=idxB p L:=by
 unfold idxB
 rw[if_neg]
 intro h
 obtain⟨x,hx,hp⟩:=List.any_eq_true.1 h
 obtain⟨j,hj,rfl⟩:=List.mem_iff_getElem.1 hx
 have:=hall j (by omega)
 rw[List.getD_eq_getElem?_getD,List.getElem?_eq_getElem hj]at this
 simp_all
abbrev q_ixfn (L:List CD) (F:FuncId):QA:=([.vec .cell L,.fn F []],(F=f1∨F=f2)∧L.length≤1000000,.ret (.int .i64 (idxB (badF F) L)))
def sp_ixfn:=spQ (u2 q_ixfn)
theorem jr7:W2 (hA sp_ixfn) q_ixfn:=w2 (aA rfl)
theorem jzr:Al 160 sp_ixfn:=ofA (u2 q_ixfn) fun⟨L,F⟩ hG=>tfi (.f [.any] jhu jw5 (.f [.any] jhv jw7 .nil)) 0 jcf (by
 dsimp only[u2,q_ixfn]at hG ⊢
 have zc:=Hk.mk (qaa @jpm (qaa @jpn (qaa @bF1 (qaa @bF2 (qaa @jbL (qaa @ja7 @jaA))))))
 obtain⟨hF,hl⟩:=hG
 rcases hF with rfl|rfl
 ·have e:badF f1=bad1:=bF1
  rw[e]
  repeat' first|refine tU ?_|refine qaa ?_ ?_|(refine tI ?_;intro hyp)|intro hyp0|exact tZ|omega
  refine T.loop (fun k:Nat=>⟨[(0,.vec .cell L),(1,.fn 134 []),(7,.int .i64 L.length),(8,.int .i64 k)],[]⟩) (fun k=>k≤L.length∧∀j,j<k→bad1 (L.getD j default)=false) (fun k=>L.length-k) 0 ⟨by omega,fun j hj=>by omega⟩ (qab [] [] rfl (by exact tG)) (fun k ⟨hk,hall⟩=>?_)
  repeat' first|refine tU ?_|refine qab [] [] rfl ?_|refine qaa ?_ ?_|(refine tI ?_;intro hyp)|intro hyp0|exact tZ|omega
  ·exact juo (by omega) hall hyp
  ·exact⟨k+1,⟨by omega,jx9 hyp hall⟩,by omega,(qab [] [] rfl (by exact tG))⟩
  ·exact jya (by omega) hall
 ·have e:badF f2=bad2:=bF2
  rw[e]
  repeat' first|refine tU ?_|refine qaa ?_ ?_|(refine tI ?_;intro hyp)|intro hyp0|exact tZ|omega
  refine T.loop (fun k:Nat=>⟨[(0,.vec .cell L),(1,.fn 143 []),(7,.int .i64 L.length),(8,.int .i64 k)],[]⟩) (fun k=>k≤L.length∧∀j,j<k→bad2 (L.getD j default)=false) (fun k=>L.length-k) 0 ⟨by omega,fun j hj=>by omega⟩ (qab [] [] rfl (by exact tG)) (fun k ⟨hk,hall⟩=>?_)
  repeat' first|refine tU ?_|refine qab [] [] rfl ?_|refine qaa ?_ ?_|(refine tI ?_;intro hyp)|intro hyp0|exact tZ|omega
  ·exact juo (by omega) hall hyp
  ·exact⟨k+1,⟨by omega,jx9 hyp hall⟩,by omega,(qab [] [] rfl (by exact tG))⟩
  ·exact jya (by omega) hall)
theorem jzs:Fre 160 sp_ixfn:=ofF (u2 q_ixfn) jzr fun _=>rfl
theorem jzt (p:CD→Bool) (L:List CD):decide (0≤idxB p L)=L.any p:=by
 unfold idxB
 cases h:L.any p<;>simp
abbrev q_ctfn (L:List CD) (F:FuncId):QA:=([.vec .cell L,.fn F []],(F=f1∨F=f2)∧L.length≤1000000,.ret (.bool (L.any (badF F))))
def sp_ctfn:=spQ (u2 q_ctfn)
theorem jlw:W2 (hA sp_ctfn) q_ctfn:=w2 (aA rfl)
theorem jzu:Al 133 sp_ctfn:=ofA (u2 q_ctfn) fun⟨L,F⟩ hG=>tfi (.f [.sl .cell,.any] jcf jzs .nil) 0 ja6 (by
 dsimp only[u2,q_ctfn]at hG ⊢
 have zc:=Hk.mk (qaa @jr7 (qaa @bF1 (qaa @bF2 (qaa @jbL (qaa @ja7 @jaA)))))
 obtain⟨hF,hl⟩:=hG
 repeat' first|exact hF|refine tU ?_|refine qab [] [] rfl ?_|refine qaa ?_ ?_|(refine tI ?_;intro hyp)|intro hyp0|exact tZ|omega
 all_goals exact jzt _ L)
theorem jup:Fre 133 sp_ctfn:=ofF (u2 q_ctfn) jzu fun _=>rfl
theorem juq (l:List ByteArray):decide ((l.length:Int)=0)=decide (l.length=0):=decide_eq_decide.2 (by omega)
theorem jur {p:CD→Bool}{L:List CD}:(!L.any fun c=>!p c)=L.all p:=by simp[List.all_eq_not_any_not]
theorem any1 (L:List CD):(!L.any bad1)=L.all fit1:=jur
theorem any2 (L:List CD):(!L.any bad2)=L.all fit2:=jur
abbrev jhx:List AK:=[.agg [.any,.any,.sl .cell,.any,.any,.any,.any,.any,.sl .str]]
abbrev q_pfits1 (k r:Int) (L:List CD) (x y:Int) (hd:Bool) (mo:Int) (ti:ByteArray) (l:List ByteArray):QA:=([.agg [.int .i64 k,.int .i64 r,.vec .cell L,.int .i64 x,.int .i64 y,.bool hd,.int .u8 mo,.str ti,.vec .str l]],ScrOk L l∧SLen ti,.ret (.bool (jaC k r L x y mo ti l)))
def sp_pfits1:=spQ (u9 q_pfits1)
theorem jdR:W9 (hA sp_pfits1) q_pfits1:=w9 (aA rfl)
theorem jus:Al 98 sp_pfits1:=ofA (u9 q_pfits1) fun⟨k,r,L,x,y,hd,mo,ti,l⟩ hG=>tfi (.f jep jbG jeq (.f [.sl .cell,.any] ja6 jup .nil)) 0 jdl (by
 dsimp only[u9,q_pfits1]at hG ⊢
 have zc:=Hk.mk (qaa @jb2 (qaa @jlw (qaa @bF1 (qaa @bF2 (qaa @jbL (qaa @ja7 @jaA))))))
 obtain⟨hs,ht⟩:=hG
 have hl:=hs.len
 have hl2:=hs.links
 repeat' first|exact hs|exact .inl rfl|exact .inr rfl|refine tU ?_|refine qab [] [] rfl ?_|refine qaa ?_ ?_|(refine tI ?_;intro hyp)|intro hyp0|exact tZ|omega
 all_goals (rw[juq,any1];rfl))
theorem jhy:Fre 98 sp_pfits1:=ofF (u9 q_pfits1) jus fun _=>rfl
abbrev jhz:List AK:=[.agg [.any,.any,.sl .cell,.any,.any,.any,.any,.any,.sl .str]]
abbrev q_pfits2 (k r:Int) (L:List CD) (x y:Int) (hd:Bool) (mo:Int) (ti:ByteArray) (l:List ByteArray):QA:=([.agg [.int .i64 k,.int .i64 r,.vec .cell L,.int .i64 x,.int .i64 y,.bool hd,.int .u8 mo,.str ti,.vec .str l]],ScrOk L l∧SLen ti,.ret (.bool (jaB k r L x y mo ti l)))
def sp_pfits2:=spQ (u9 q_pfits2)
theorem jdS:W9 (hA sp_pfits2) q_pfits2:=w9 (aA rfl)
theorem jut:Al 102 sp_pfits2:=ofA (u9 q_pfits2) fun⟨k,r,L,x,y,hd,mo,ti,l⟩ hG=>tfi (.f jep jbG jeq (.f [.sl .cell,.any] ja6 jup .nil)) 0 jdm (by
 dsimp only[u9,q_pfits2]at hG ⊢
 have zc:=Hk.mk (qaa @jb2 (qaa @jlw (qaa @bF1 (qaa @bF2 (qaa @jbL (qaa @ja7 @jaA))))))
 obtain⟨hs,ht⟩:=hG
 have hl:=hs.len
 have hl2:=hs.links
 repeat' first|exact hs|exact .inl rfl|exact .inr rfl|refine tU ?_|refine qab [] [] rfl ?_|refine qaa ?_ ?_|(refine tI ?_;intro hyp)|intro hyp0|exact tZ|omega
 all_goals (rw[juq,any2];rfl))
theorem jhA:Fre 102 sp_pfits2:=ofF (u9 q_pfits2) jut fun _=>rfl
abbrev juu:List AK:=[.any,.agg [.any,.any,.sl .cell,.any,.any,.any,.any,.any,.sl .str]]
abbrev q_mfits1 (k r:Int) (L:List CD) (x y:Int) (hd:Bool) (mo:Int) (ti:ByteArray) (l:List ByteArray):QA:=([.agg [],.agg [.int .i64 k,.int .i64 r,.vec .cell L,.int .i64 x,.int .i64 y,.bool hd,.int .u8 mo,.str ti,.vec .str l]],ScrOk L l∧SLen ti,.ret (.bool (jaC k r L x y mo ti l)))
def sp_mfits1:=spQ (u9 q_mfits1)
theorem jn0:W9 (hA sp_mfits1) q_mfits1:=w9 (aA rfl)
theorem juv:Al 46 sp_mfits1:=ofA (u9 q_mfits1) fun⟨k,r,L,x,y,hd,mo,ti,l⟩ hG=>tfi (.f jhx jdl jhy .nil) 0 jer (by
 dsimp only[u9,q_mfits1]at hG ⊢
 have zc:=Hk.mk (qaa @jdR (qaa @bF1 (qaa @bF2 (qaa @jbL (qaa @ja7 @jaA)))))
 obtain⟨hs,ht⟩:=hG
 repeat' first|exact hs|refine tU ?_|refine qab [] [] rfl ?_|refine qaa ?_ ?_|(refine tI ?_;intro hyp)|intro hyp0|exact tZ|omega)
theorem juw:Fre 46 sp_mfits1:=ofF (u9 q_mfits1) juv fun _=>rfl
abbrev jux:List AK:=[.any,.agg [.any,.any,.sl .cell,.any,.any,.any,.any,.any,.sl .str]]
abbrev q_mfits2 (k r:Int) (L:List CD) (x y:Int) (hd:Bool) (mo:Int) (ti:ByteArray) (l:List ByteArray):QA:=([.agg [],.agg [.int .i64 k,.int .i64 r,.vec .cell L,.int .i64 x,.int .i64 y,.bool hd,.int .u8 mo,.str ti,.vec .str l]],ScrOk L l∧SLen ti,.ret (.bool (jaB k r L x y mo ti l)))
def sp_mfits2:=spQ (u9 q_mfits2)
theorem jn1:W9 (hA sp_mfits2) q_mfits2:=w9 (aA rfl)
theorem juy:Al 50 sp_mfits2:=ofA (u9 q_mfits2) fun⟨k,r,L,x,y,hd,mo,ti,l⟩ hG=>tfi (.f jhz jdm jhA .nil) 0 jdQ (by
 dsimp only[u9,q_mfits2]at hG ⊢
 have zc:=Hk.mk (qaa @jdS (qaa @bF1 (qaa @bF2 (qaa @jbL (qaa @ja7 @jaA)))))
 obtain⟨hs,ht⟩:=hG
 repeat' first|exact hs|refine tU ?_|refine qab [] [] rfl ?_|refine qaa ?_ ?_|(refine tI ?_;intro hyp)|intro hyp0|exact tZ|omega)
theorem juz:Fre 50 sp_mfits2:=ofF (u9 q_mfits2) juy fun _=>rfl
abbrev juA:List AK:=[.any,.agg [.any,.any,.sl .cell,.any,.any,.any,.any,.any,.sl .str]]
abbrev q_mfits3 (k r:Int) (L:List CD) (x y:Int) (hd:Bool) (mo:Int) (ti:ByteArray) (l:List ByteArray):QA:=([.agg [],.agg [.int .i64 k,.int .i64 r,.vec .cell L,.int .i64 x,.int .i64 y,.bool hd,.int .u8 mo,.str ti,.vec .str l]],ScrOk L l∧SLen ti,.ret (.bool (jal k r L x y mo ti l)))
def sp_mfits3:=spQ (u9 q_mfits3)
theorem jn2:W9 (hA sp_mfits3) q_mfits3:=w9 (aA rfl)
theorem juB:Al 54 sp_mfits3:=ofA (u9 q_mfits3) fun⟨k,r,L,x,y,hd,mo,ti,l⟩ hG=>tfi (.f jep jbG jeq .nil) 0 jes (by
 dsimp only[u9,q_mfits3]at hG ⊢
 have zc:=Hk.mk (qaa @jb2 (qaa @bF1 (qaa @bF2 (qaa @jbL (qaa @ja7 @jaA)))))
 obtain⟨hs,ht⟩:=hG
 repeat' first|exact hs|refine tU ?_|refine qab [] [] rfl ?_|refine qaa ?_ ?_|(refine tI ?_;intro hyp)|intro hyp0|exact tZ|omega)
theorem juC:Fre 54 sp_mfits3:=ofF (u9 q_mfits3) juB fun _=>rfl
abbrev q_dof (v:Int):QA:=([.int .i64 v],True,.ret (.tup [wayV v,.bool (decide (1≤v∧v≤3))]))
def sp_dof:=spQ (u1 q_dof)
theorem jkh:W1 (hA sp_dof) q_dof:=w1 (aA rfl)
theorem juD:Al 24 sp_dof:=ofA (u1 q_dof) fun v hG=>tfi .nil 0 jhw (by
 dsimp only[u1,q_dof]at hG ⊢
 have zc:=Hk.mk (qaa @bF1 (qaa @bF2 (qaa @jbL (qaa @ja7 @jaA))))
 by_cases h1:v=1
 ·subst h1
  repeat' first|refine tU ?_|refine qab [] [] rfl ?_|refine qaa ?_ ?_|(refine tI ?_;intro hyp)|intro hyp0|exact tZ|omega
  all_goals simp[wayV,crs,crsL]
 by_cases h2:v=2
 ·subst h2
  repeat' first|refine tU ?_|refine qab [] [] rfl ?_|refine qaa ?_ ?_|(refine tI ?_;intro hyp)|intro hyp0|exact tZ|omega
  all_goals simp[wayV,crs,crsL]
 by_cases h3:v=3
 ·subst h3
  repeat' first|refine tU ?_|refine qab [] [] rfl ?_|refine qaa ?_ ?_|(refine tI ?_;intro hyp)|intro hyp0|exact tZ|omega
  all_goals simp[wayV,crs,crsL]
 repeat' first|refine tU ?_|refine qab [] [] rfl ?_|refine qaa ?_ ?_|(refine tI ?_;intro hyp)|intro hyp0|exact tZ|omega
 all_goals simp[wayV,h1,h2,h3,crs,crsL]
 omega)
abbrev jw8:List AK:=[.any,.agg [.any,.any,.sl .cell,.any,.any,.any,.any,.any,.sl .str]]
abbrev q_dfits (v k r:Int) (L:List CD) (x y:Int) (hd:Bool) (mo:Int) (ti:ByteArray) (l:List ByteArray):QA:=([.int .i64 v,.agg [.int .i64 k,.int .i64 r,.vec .cell L,.int .i64 x,.int .i64 y,.bool hd,.int .u8 mo,.str ti,.vec .str l]],ScrOk L l∧SLen ti,.ret (.bool (jbf v k r L x y mo ti l)))
def sp_dfits:=spQ (u10 q_dfits)
theorem jpo:W10 (hA sp_dfits) q_dfits:=w10 (aA rfl)
theorem jw9:Al 15 sp_dfits:=ofA (u10 q_dfits) fun⟨v,k,r,L,x,y,hd,mo,ti,l⟩ hG=>tfi (.a [.any] jhw juD (.f juu jer juw (.f jux jdQ juz (.f juA jes juC .nil)))) 0 jkg (by
 dsimp only[u10,q_dfits]at hG ⊢
 have zc:=Hk.mk (qaa @jkh (qaa @jn0 (qaa @jn1 (qaa @jn2 (qaa @bF1 (qaa @bF2 (qaa @jbL (qaa @ja7 @jaA))))))))
 obtain⟨hs,ht⟩:=hG
 by_cases h1:v=1
 ·subst h1
  have hw:wayV 1=_:=if_pos rfl
  repeat' first|exact hs|refine tU ?_|refine qab [] [] rfl ?_|refine qaa ?_ ?_|(refine tI ?_;intro hyp)|intro hyp0|exact tZ|omega
  simp[jbf]
 by_cases h2:v=2
 ·subst h2
  have hw:wayV 2=_:=(if_neg (by decide)).trans (if_pos rfl)
  repeat' first|exact hs|refine tU ?_|refine qab [] [] rfl ?_|refine qaa ?_ ?_|(refine tI ?_;intro hyp)|intro hyp0|exact tZ|omega
  simp[jbf]
 by_cases h3:v=3
 ·subst h3
  have hw:wayV 3=_:=(if_neg (by decide)).trans ((if_neg (by decide)).trans (if_pos rfl))
  repeat' first|exact hs|refine tU ?_|refine qab [] [] rfl ?_|refine qaa ?_ ?_|(refine tI ?_;intro hyp)|intro hyp0|exact tZ|omega
  simp[jbf]
 have hw:wayV v=_:=(if_neg h1).trans ((if_neg h2).trans (if_neg h3))
 have hw2:decide (1≤v∧v≤3)=false:=decide_eq_false (by omega)
 repeat' first|exact hs|refine tU ?_|refine qab [] [] rfl ?_|refine qaa ?_ ?_|(refine tI ?_;intro hyp)|intro hyp0|exact tZ|omega
 simp[jbf,h1,h2,h3])
theorem jxa:Fre 15 sp_dfits:=ofF (u10 q_dfits) jw9 fun _=>rfl
end
end
end Go.Proofs.YtienkkicehmchaaGreatDoor
