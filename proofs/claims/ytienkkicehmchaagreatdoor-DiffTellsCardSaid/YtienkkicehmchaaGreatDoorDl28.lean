/- Texts of this claim, merged by a program of this claim: FTerm. -/
import Derived.Test.YtienkkicehmchaaGreatDoorDl21
import Derived.Test.YtienkkicehmchaaGreatDoorDl24
import Derived.Test.YtienkkicehmchaaGreatDoorDl27
import Derived.Test.YtienkkicehmchaaGreatDoorDl6
namespace Go.Proofs.YtienkkicehmchaaGreatDoor
open And renaming intro→qaa
open List renaming replicate→qab,cons_append→qae,map_cons→qaf,replicate_succ'→qag,nil_append→qah,range→qaj,take→qak
open Cos renaming intro→qac
open Nat renaming add_sub_cancel→qad,mul_le_mul→qai
noncomputable section
set_option linter.unusedVariables false
set_option linter.unusedSimpArgs false
section
open Go.RowKit
set_option maxRecDepth 100000
set_option maxHeartbeats 4000000
def jb9 (tb:List Bool):List CV:=(qaj 80).map fun i=>.bool (tb.getD i false)
theorem jlM:qab 80 (CV.bool false)=jb9 []:=rfl
theorem jaW (tb:List Bool):(jb9 tb).length=80:=by simp[jb9]
theorem jbV (tb:List Bool) (n:Nat) (B:List CV):qak (n+80) (jb9 tb++B)=jb9 tb++qak n B:=by
 rw[List.take_append,jaW,List.take_of_length_le (by rw[jaW];omega),qad]
theorem jbW (tb:List Bool) (n:Nat) (B:List CV):List.drop (n+80) (jb9 tb++B)=List.drop n B:=by
 rw[List.drop_append,jaW,List.drop_of_length_le (by rw[jaW];omega),qad,qah]
theorem jcG (tb:List Bool) (n:Nat) (B:List CV):(jb9 tb++B)[n+80]?=B[n]?:=by
 rw[List.getElem?_append_right (by rw[jaW];omega),jaW,qad]
theorem jcH (tb:List Bool) (n:Nat) (B:List CV) (v:CV):(jb9 tb++B).set (n+80) v=jb9 tb++B.set n v:=by
 rw[List.set_append_right _ _ (by rw[jaW];omega),jaW,qad]
theorem jpk (f:Nat→Bool):∀(l:List Nat) (B:List CV),jc6 ((l.map fun i=>CV.bool (f i))++B)=jc6 B
 | [],B=>rfl
 | a::l,B=>by
  simp only[qaf,qae,jc6,jdB,qah]
  exact jpk f l B
theorem jbX (tb:List Bool) (B:List CV):jc6 (jb9 tb++B)=jc6 B:=jpk _ _ B
theorem js0 (ρ:List Nat) (f:Nat→Bool):∀(l:List Nat) (B:List CV),locL ρ ((l.map fun i=>CV.bool (f i))++B)=(l.map fun i=>CV.bool (f i))++locL ρ B
 | [],B=>rfl
 | a::l,B=>by
  simp only[qaf,qae,locL,locV]
  rw[js0 ρ f l B]
theorem jcI (ρ:List Nat) (tb:List Bool) (B:List CV):locL ρ (jb9 tb++B)=jb9 tb++locL ρ B:=js0 ρ _ _ B
theorem js1 (σ:Nat→Nat) (f:Nat→Bool):∀(l:List Nat) (B:List CV),renL σ ((l.map fun i=>CV.bool (f i))++B)=(l.map fun i=>CV.bool (f i))++renL σ B
 | [],B=>rfl
 | a::l,B=>by
  simp only[qaf,qae,renL,renV]
  rw[js1 σ f l B]
theorem jcJ (σ:Nat→Nat) (tb:List Bool) (B:List CV):renL σ (jb9 tb++B)=jb9 tb++renL σ B:=js1 σ _ _ B
theorem js2 (ρ fz:List Nat) (h:KH) (f:Nat→Bool):∀(l:List Nat) (A B:List CV),crsL ρ fz h ((l.map fun i=>CV.bool (f i))++A) ((l.map fun i=>CV.bool (f i))++B)=crsL ρ fz h A B
 | [],A,B=>rfl
 | a::l,A,B=>by
  simp only[qaf,qae,crsL,crs,true_and]
  exact js2 ρ fz h f l A B
theorem jcK (ρ fz:List Nat) (h:KH) (tb:List Bool) (A B:List CV):crsL ρ fz h (jb9 tb++A) (jb9 tb++B)=crsL ρ fz h A B:=js2 ρ fz h _ _ A B
def jpl (tb:List Bool) (i:Nat) (v:Bool):List Bool:=((qaj 80).map fun j=>tb.getD j false).set i v
theorem ju4 {tb:List Bool}{i:Nat}{v:Bool}{B:List CV}(h:i<80):(jb9 tb++B).set i (.bool v)=jb9 (jpl tb i v)++B:=by
 rw[List.set_append_left _ _ (by rw[jaW];exact h)]
 congr 1
 refine List.ext_getElem? fun j=>?_
 unfold jb9 jpl
 rw[List.getElem?_set,List.getElem?_map,List.getElem?_map]
 by_cases hj:j<80
 ·rw[List.getElem?_range hj]
  simp only[Option.map_some,List.length_map,List.length_range,List.getD_eq_getElem?_getD,List.getElem?_set]
  by_cases e:i=j
  ·subst e
   simp[h]
  ·simp[e,hj]
 ·rw[List.getElem?_eq_none (show (qaj 80).length≤j by simp;omega)]
  simp only[Option.map_none]
  rw[if_neg (by omega)]
def jdP:Nat→List Bool
 | 0=>[]
 | i+1=>jpl (jdP i) i (decide (i % 8=0)&&decide (0<i))
abbrev q_unew:QM:=(([],[]),True,.ret (.ptr 0 0 0),[.box [.int .i64 0,.int .i32 0,.int .u8 0,.int .u8 0]])
def msp_unew:=mspQ (u0 q_unew)
theorem jof:W0 (hM msp_unew) q_unew:=w0 (aM rfl (fun _ _ _=>rfl))
theorem jxc:Mu 204 msp_unew:=ofM (u0 q_unew) fun _ hG=>tfi .nil 0 jmU (by
 dsimp only[u0,q_unew]at hG ⊢
 have zc:=Hk.mk (qaa @jlM (qaa @jaW (qaa @jbV (qaa @jbW (qaa @jcG (qaa @jcH (qaa @jbX (qaa @jcI (qaa @jcJ @jcK)))))))))
 repeat' first|refine tU ?_|refine qac [0] [] rfl ?_|refine qaa ?_ ?_|(refine tI ?_;intro hyp)|intro hyp0|exact tZ|omega)
abbrev q_pnew:QM:=(([],[]),True,.ret (.ptr 0 0 0),[.box [.ptr 1 0 0,.int .i64 0,.bool false,.int .u8 0,.bool false,.nils,.nils,.bool false],.box [.int .i64 0,.int .i32 0,.int .u8 0,.int .u8 0]])
def msp_pnew:=mspQ (u0 q_pnew)
theorem jog:W0 (hM msp_pnew) q_pnew:=w0 (aM rfl (fun _ _ _=>rfl))
theorem jxd:Mu 190 msp_pnew:=ofM (u0 q_pnew) fun _ hG=>tfi (.m jmU jxc .nil) 0 jjz (by
 dsimp only[u0,q_pnew]at hG ⊢
 have zc:=Hk.mk (qaa @jof (qaa @jlM (qaa @jaW (qaa @jbV (qaa @jbW (qaa @jcG (qaa @jcH (qaa @jbX (qaa @jcI (qaa @jcJ @jcK))))))))))
 repeat' first|refine tU ?_|refine qac [1,0] [] rfl ?_|refine qaa ?_ ?_|(refine tI ?_;intro hyp)|intro hyp0|exact tZ|omega)
abbrev q_frame (k r:Int) (L M:List CD):QM:=(([.ptr 0 0 0],[.box ((.int .i64 0)::(.int .i64 0)::(.int .u32 0)::(.int .u32 0)::(.int .u8 0)::(.int .u16 0)::(.bool false)::(.int .i64 k)::(.int .i64 r)::(.int .i64 k)::(.int .i64 r)::(.vec .cell L)::(.int .i64 k)::(.int .i64 r)::(.vec .cell M)::(.int .i64 0)::(.bool false)::(.int .i64 0)::(.int .i64 0)::(.bool true)::(.bool false)::(.bool false)::(.int .u8 0)::(jb9 []++[.int .i64 0,.int .i64 0,.int .u32 0,.int .u32 0,.int .u8 0,.int .u16 0,.bool false,.str (bs []),.nils,.int .i32 0,.ptr 1 0 0])),.box [.ptr 2 0 0,.int .i64 0,.bool false,.int .u8 0,.bool false,.nils,.nils,.bool false],.box [.int .i64 0,.int .i32 0,.int .u8 0,.int .u8 0]]),1≤r∧r≤100,.ret .undef,[.box ((.int .i64 0)::(.int .i64 0)::(.int .u32 0)::(.int .u32 0)::(.int .u8 0)::(.int .u16 0)::(.bool false)::(.int .i64 k)::(.int .i64 r)::(.int .i64 k)::(.int .i64 r)::(.vec .cell L)::(.int .i64 k)::(.int .i64 r)::(.vec .cell M)::(.int .i64 0)::(.bool false)::(.int .i64 0)::(.int .i64 (r-1))::(.bool true)::(.bool false)::(.bool false)::(.int .u8 0)::(jb9 (jdP 80)++[.int .i64 0,.int .i64 0,.int .u32 0,.int .u32 0,.int .u8 0,.int .u16 0,.bool false,.str (bs []),.nils,.int .i32 0,.ptr 1 0 0])),.box [.ptr 2 0 0,.int .i64 0,.bool false,.int .u8 0,.bool false,.nils,.nils,.bool false],.box [.int .i64 0,.int .i32 0,.int .u8 0,.int .u8 0]])
def msp_frame:=mspQ (u4 q_frame)
theorem jmV:W4 (hM msp_frame) q_frame:=w4 (aM rfl)
theorem ju5:Mu 191 msp_frame:=ofM (u4 q_frame) fun⟨k,r,L,M⟩ hG=>tfi .nil 3 jdO (by
 dsimp only[u4,q_frame]at hG ⊢
 have zc:=Hk.mk (qaa @jlM (qaa @jaW (qaa @jbV (qaa @jbW (qaa @jcG (qaa @jcH (qaa @jbX (qaa @jcI (qaa @jcJ @jcK)))))))))
 have hr:=hG
 repeat' first|refine tU ?_|refine qaa ?_ ?_|(refine tI ?_;intro hyp)|intro hyp0|exact tZ|omega
 refine T.loop (fun i:Nat=>⟨[(0,.ptr 0 0 0),(14,.int .i64 i)],[.box ((.int .i64 0)::(.int .i64 0)::(.int .u32 0)::(.int .u32 0)::(.int .u8 0)::(.int .u16 0)::(.bool false)::(.int .i64 k)::(.int .i64 r)::(.int .i64 k)::(.int .i64 r)::(.vec .cell L)::(.int .i64 k)::(.int .i64 r)::(.vec .cell M)::(.int .i64 0)::(.bool false)::(.int .i64 0)::(.int .i64 (r-1))::(.bool true)::(.bool false)::(.bool false)::(.int .u8 0)::(jb9 (jdP i)++[.int .i64 0,.int .i64 0,.int .u32 0,.int .u32 0,.int .u8 0,.int .u16 0,.bool false,.str (bs []),.nils,.int .i32 0,.ptr 1 0 0])),.box [.ptr 2 0 0,.int .i64 0,.bool false,.int .u8 0,.bool false,.nils,.nils,.bool false],.box [.int .i64 0,.int .i32 0,.int .u8 0,.int .u8 0]]⟩) (fun i=>i≤80) (fun i=>80-i) 0 (by omega) (qac [0,1,2] [] rfl (by simp only[jdP];exact tF)) (fun i hi=>?_)
 by_cases hi80:i<80
 ·have hw:=fun B=>ju4 (tb:=jdP i) (v:=decide ((i:Int) % 8=0)&&decide (0<(i:Int))) (B:=B) hi80
  have hw2:23+i*1=i+23:=by omega
  have hw3:(i≤90)=True:=eq_true (by omega)
  have hts:jpl (jdP i) i (decide ((i:Int) % 8=0)&&decide (0<(i:Int)))=jdP (i+1):=by
   simp only[jdP]
   congr 2<;>exact decide_eq_decide.2 (by omega)
  repeat' first|refine tU ?_|refine qaa ?_ ?_|(refine tI ?_;intro hyp)|intro hyp0|exact tZ|omega
  exact⟨i+1,by omega,by omega,qac [0,1,2] [] rfl (by rw[hts];exact tF)⟩
 ·obtain rfl:i=80:=by omega
  repeat' first|refine tU ?_|refine qac [0,1,2] [] rfl ?_|refine qaa ?_ ?_|(refine tI ?_;intro hyp)|intro hyp0|exact tZ|omega)
abbrev q_enew (k r:Int):QM:=(([.int .i64 k,.int .i64 r],[]),jb5 k r=true,.ret (.tup [.ptr 0 0 0,.int .i64 0]),[.box ((.int .i64 0)::(.int .i64 0)::(.int .u32 0)::(.int .u32 0)::(.int .u8 0)::(.int .u16 0)::(.bool false)::(.int .i64 k)::(.int .i64 r)::(.int .i64 k)::(.int .i64 r)::(.vec .cell (qab (k.toNat*r.toNat) blank0))::(.int .i64 k)::(.int .i64 r)::(.vec .cell (qab (k.toNat*r.toNat) blank0))::(.int .i64 0)::(.bool false)::(.int .i64 0)::(.int .i64 (r-1))::(.bool true)::(.bool false)::(.bool false)::(.int .u8 0)::(jb9 (jdP 80)++[.int .i64 0,.int .i64 0,.int .u32 0,.int .u32 0,.int .u8 0,.int .u16 0,.bool false,.str (bs []),.nils,.int .i32 0,.ptr 1 0 0])),.box [.ptr 2 0 0,.int .i64 0,.bool false,.int .u8 0,.bool false,.nils,.nils,.bool false],.box [.int .i64 0,.int .i32 0,.int .u8 0,.int .u8 0]])
def msp_enew:=mspQ (u2 q_enew)
theorem joh:W2 (hM msp_enew) q_enew:=w2 (aM rfl)
theorem jxe:Mu 163 msp_enew:=ofM (u2 q_enew) fun⟨k,r⟩ hG=>tfi (.a [.any,.any] jkn jwT (.m jjz jxd (.m jdO ju5 .nil))) 0 jkC (by
 dsimp only[u2,q_enew]at hG ⊢
 have zc:=Hk.mk (qaa @jqq (qaa @jog (qaa @jmV (qaa @jlM (qaa @jaW (qaa @jbV (qaa @jbW (qaa @jcG (qaa @jcH (qaa @jbX (qaa @jcI (qaa @jcJ @jcK))))))))))))
 have hw:=hG
 have hf:=jbA.1 hG
 repeat' first|refine tU ?_|refine qaa ?_ ?_|(refine tI ?_;intro hyp)|intro hyp0|exact tZ|omega
 exact qac [4,2,3] [] rfl (by exact tF))
abbrev q_here (k r:Int) (L M:List CD):QM:=(([.ptr 0 0 0],[.box ((.int .i64 0)::(.int .i64 0)::(.int .u32 0)::(.int .u32 0)::(.int .u8 0)::(.int .u16 0)::(.bool false)::(.int .i64 k)::(.int .i64 r)::(.int .i64 k)::(.int .i64 r)::(.vec .cell L)::(.int .i64 k)::(.int .i64 r)::(.vec .cell M)::(.int .i64 0)::(.bool false)::(.int .i64 0)::(.int .i64 (r-1))::(.bool true)::(.bool false)::(.bool false)::(.int .u8 0)::(jb9 (jdP 80)++[.int .i64 0,.int .i64 0,.int .u32 0,.int .u32 0,.int .u8 0,.int .u16 0,.bool false,.str (bs []),.nils,.int .i32 0,.ptr 1 0 0])),.box [.ptr 2 0 0,.int .i64 0,.bool false,.int .u8 0,.bool false,.nils,.nils,.bool false],.box [.int .i64 0,.int .i32 0,.int .u8 0,.int .u8 0]]),True,.ret (.agg [.int .i64 k,.int .i64 r,.vec .cell L]),[.box ((.int .i64 0)::(.int .i64 0)::(.int .u32 0)::(.int .u32 0)::(.int .u8 0)::(.int .u16 0)::(.bool false)::(.int .i64 k)::(.int .i64 r)::(.int .i64 k)::(.int .i64 r)::(.vec .cell L)::(.int .i64 k)::(.int .i64 r)::(.vec .cell M)::(.int .i64 0)::(.bool false)::(.int .i64 0)::(.int .i64 (r-1))::(.bool true)::(.bool false)::(.bool false)::(.int .u8 0)::(jb9 (jdP 80)++[.int .i64 0,.int .i64 0,.int .u32 0,.int .u32 0,.int .u8 0,.int .u16 0,.bool false,.str (bs []),.nils,.int .i32 0,.ptr 1 0 0])),.box [.ptr 2 0 0,.int .i64 0,.bool false,.int .u8 0,.bool false,.nils,.nils,.bool false],.box [.int .i64 0,.int .i32 0,.int .u8 0,.int .u8 0]])
def msp_here:=mspQ (u4 q_here)
theorem joi:W4 (hM msp_here) q_here:=w4 (aM rfl)
theorem jxf:Mu 193 msp_here:=ofM (u4 q_here) fun⟨k,r,L,M⟩ hG=>tfi .nil 3 jej (by
 dsimp only[u4,q_here]at hG ⊢
 have zc:=Hk.mk (qaa @jlM (qaa @jaW (qaa @jbV (qaa @jbW (qaa @jcG (qaa @jcH (qaa @jbX (qaa @jcI (qaa @jcJ @jcK)))))))))
 repeat' first|refine tU ?_|refine qaa ?_ ?_|(refine tI ?_;intro hyp)|intro hyp0|exact tZ|omega
 exact qac [0,1,2] [] rfl (by exact tF))
abbrev q_tscreen (k r:Int) (L M:List CD):QM:=(([.ptr 0 0 0],[.box ((.int .i64 0)::(.int .i64 0)::(.int .u32 0)::(.int .u32 0)::(.int .u8 0)::(.int .u16 0)::(.bool false)::(.int .i64 k)::(.int .i64 r)::(.int .i64 k)::(.int .i64 r)::(.vec .cell L)::(.int .i64 k)::(.int .i64 r)::(.vec .cell M)::(.int .i64 0)::(.bool false)::(.int .i64 0)::(.int .i64 (r-1))::(.bool true)::(.bool false)::(.bool false)::(.int .u8 0)::(jb9 (jdP 80)++[.int .i64 0,.int .i64 0,.int .u32 0,.int .u32 0,.int .u8 0,.int .u16 0,.bool false,.str (bs []),.nils,.int .i32 0,.ptr 1 0 0])),.box [.ptr 2 0 0,.int .i64 0,.bool false,.int .u8 0,.bool false,.nils,.nils,.bool false],.box [.int .i64 0,.int .i32 0,.int .u8 0,.int .u8 0]]),L.length≤60000∧(∀c∈L,0≤c.link∧c.link<65536),.ret (.agg [.int .i64 k,.int .i64 r,.slice 3 0 6 L.length L.length,.int .i64 0,.int .i64 0,.bool false,.int .u8 0,.str (bs []),.slice 4 0 1 (jac [] L).length (jac [] L).length]),[.box ((.int .i64 0)::(.int .i64 0)::(.int .u32 0)::(.int .u32 0)::(.int .u8 0)::(.int .u16 0)::(.bool false)::(.int .i64 k)::(.int .i64 r)::(.int .i64 k)::(.int .i64 r)::(.vec .cell L)::(.int .i64 k)::(.int .i64 r)::(.vec .cell M)::(.int .i64 0)::(.bool false)::(.int .i64 0)::(.int .i64 (r-1))::(.bool true)::(.bool false)::(.bool false)::(.int .u8 0)::(jb9 (jdP 80)++[.int .i64 0,.int .i64 0,.int .u32 0,.int .u32 0,.int .u8 0,.int .u16 0,.bool false,.str (bs []),.nils,.int .i32 0,.ptr 1 0 0])),.box [.ptr 2 0 0,.int .i64 0,.bool false,.int .u8 0,.bool false,.nils,.nils,.bool false],.box [.int .i64 0,.int .i32 0,.int .u8 0,.int .u8 0],.seq .cell (L.map (jaF [] (jac [] L))),.seq .str (jac [] L)])
def msp_tscreen:=mspQ (u4 q_tscreen)
theorem jj0:W4 (hM msp_tscreen) q_tscreen:=w4 (aM rfl)
theorem jqN:Mu 164 msp_tscreen:=ofM (u4 q_tscreen) fun⟨k,r,L,M⟩ hG=>tfi (.m jej jxf (.t [.sl .cell,.sl .str] jgA jsG .nil)) 3 jdn (by
 dsimp only[u4,q_tscreen]at hG ⊢
 have zc:=Hk.mk (qaa @joi (qaa @jmN (qaa @jlM (qaa @jaW (qaa @jbV (qaa @jbW (qaa @jcG (qaa @jcH (qaa @jbX (qaa @jcI (qaa @jcJ @jcK)))))))))))
 obtain⟨hl,hc⟩:=hG
 repeat' first|exact hc|refine tU ?_|refine qaa ?_ ?_|(refine tI ?_;intro hyp)|intro hyp0|exact tZ|omega
 refine qac [0,1,2,4,5] [] rfl ?_
 simp only[PB,SAM,seval,rdB,Hk.out zc]
 simp)
theorem ju6 (n:Nat):∀c∈qab n blank0,0≤c.link∧c.link<65536:=fun c hc=>by
 rw[List.eq_of_mem_replicate hc]
 decide
abbrev q_pblank (k r:Int):QA:=([.int .i64 k,.int .i64 r],jb5 k r=true,.ret (.tup [.agg [.int .i64 k,.int .i64 r,.vec .cell (qab (k.toNat*r.toNat) blank0),.int .i64 0,.int .i64 0,.bool false,.int .u8 0,.str (bs []),.vec .str []],.int .i64 0]))
def sp_pblank:=spQ (u2 q_pblank)
theorem jeW:W2 (hA sp_pblank) q_pblank:=w2 (aA rfl)
theorem jjA:Fre 136 sp_pblank:=ofT (u2 q_pblank) fun⟨k,r⟩ hG=>tfi (.m jkC jxe (.m jdn jqN .nil)) 0 jbU (by
 dsimp only[u2,q_pblank]at hG ⊢
 have zc:=Hk.mk (qaa @joh (qaa @jj0 (qaa @jlM (qaa @jaW (qaa @jbV (qaa @jbW (qaa @jcG (qaa @jcH (qaa @jbX (qaa @jcI (qaa @jcJ @jcK)))))))))))
 have hf:=jbA.1 hG
 have hkr:k.toNat*r.toNat≤80*24:=qai (by omega) (by omega)
 have hw:=jn7 [] (k.toNat*r.toNat)
 have hw2:=jjk [] [] (k.toNat*r.toNat)
 repeat' first|exact hG|exact ju6 _|refine tU ?_|refine qaa ?_ ?_|(refine tI ?_;intro hyp)|intro hyp0|exact tZ|omega
 exact qac [4,5] [] rfl (by exact tF))
abbrev q_rgnewT (k r:Int):QA:=([.int .i64 k,.int .i64 r],jb5 k r=true,.ret (.tup [.agg [.int .i64 k,.int .i64 r,.vec .cell (qab (k.toNat*r.toNat) blank0)],.int .i64 0]))
def sp_rgnewT:=spQ (u2 q_rgnewT)
theorem jmW:W2 (hA sp_rgnewT) q_rgnewT:=w2 (aA rfl)
theorem js3:Fre 45 sp_rgnewT:=ofT (u2 q_rgnewT) fun⟨k,r⟩ hG=>tfi (.f [.any,.any] jeD jks (.t [.sl (.rows .cell)] jo4 jwS .nil)) 0 jmo (by
 dsimp only[u2,q_rgnewT]at hG ⊢
 have zc:=Hk.mk (qaa @jgp (qaa @jqp (qaa @jlM (qaa @jaW (qaa @jbV (qaa @jbW (qaa @jcG (qaa @jcH (qaa @jbX (qaa @jcI (qaa @jcJ @jcK)))))))))))
 have hw:=hG
 have hfit:(1≤k∧k≤80)∧(1≤r∧r≤24):=by
  simp only[jb5,HB,ne_eq,reduceCtorEq]at hw
  omega
 obtain⟨n,rfl⟩:∃n:Nat,k=n:=⟨k.toNat,by omega⟩
 obtain⟨m,rfl⟩:∃m:Nat,r=m:=⟨r.toNat,by omega⟩
 repeat' first|refine tU ?_|refine qaa ?_ ?_|(refine tI ?_;intro hyp)|intro hyp0|exact tZ|omega
 refine T.loop (fun y:Nat=>⟨[(0,.int .i64 n),(1,.int .i64 m),(4,.ptr 0 0 0),(6,.slice 1 0 1 y y),(7,.int .i64 y)],[.box [.int .i64 0,.int .i64 0,.nils],.seq (.rows .cell) (qab y (qab n blank0))]⟩) (fun y=>y≤m) (fun y=>m-y) 0 (by omega) (qac [0,1] [] rfl (by simp only[PB,SAM,seval,rdB,Hk.out zc])) (fun y hy=>?_)
 have hw2:qak y (qab y (qab n blank0))=qab y (qab n blank0):=by simp
 have hw3:jcv { fg:=0,bg:=0,attrs:=0,link:=0 }=blank0:=rfl
 have hfl:(qab y (qab n blank0)).flatten=qab (n*y) blank0:=by rw[List.flatten_replicate_replicate,Nat.mul_comm]
 have hw4:(qab y (qab n blank0)).flatten.length=n*y:=by rw[hfl];simp
 have hp:n*y≤80*24:=qai (by omega) (by omega)
 repeat' first|refine tU ?_|refine qaa ?_ ?_|(refine tI ?_;intro hyp)|intro hyp0|exact tZ|omega
 ·refine⟨y+1,by omega,by omega,qac [0,3] [] rfl ?_⟩
  have:qab (y+1) (qab n blank0)=qab y (qab n blank0)++[qab n blank0]:=qag
  simp only[PB,SAM,seval,rdB,Hk.out zc,this]
  simp
 ·obtain rfl:y=m:=by omega
  have hl:((qab y (qab n blank0)).getLastD []).length=n:=by
   obtain⟨z,rfl⟩:∃z,y=z+1:=⟨y-1,by omega⟩
   rw[qag,List.getLastD_concat]
   simp
  rw[hl,hfl]
  exact qac [2] [] rfl (by exact tF))
abbrev q_rblankT (k r:Int):QA:=([.int .i64 k,.int .i64 r],jb5 k r=true,.ret (.tup [.agg [.int .i64 k,.int .i64 r,.vec .cell (qab (k.toNat*r.toNat) blank0),.int .i64 0,.int .i64 0,.bool false,.int .u8 0,.str (bs []),.vec .str []],.int .i64 0]))
def sp_rblankT:=spQ (u2 q_rblankT)
theorem jcL:W2 (hA sp_rblankT) q_rblankT:=w2 (aA rfl)
theorem jfb:Fre 23 sp_rblankT:=ofT (u2 q_rblankT) fun⟨k,r⟩ hG=>tfi (.t [.any,.any] jmo js3 .nil) 0 jc0 (by
 dsimp only[u2,q_rblankT]at hG ⊢
 have zc:=Hk.mk (qaa @jmW (qaa @jlM (qaa @jaW (qaa @jbV (qaa @jbW (qaa @jcG (qaa @jcH (qaa @jbX (qaa @jcI (qaa @jcJ @jcK))))))))))
 repeat' first|exact hG|refine tU ?_|refine qaa ?_ ?_|(refine tI ?_;intro hyp)|intro hyp0|exact tZ|omega
 exact qac [1,99] [] rfl (by simp only[PB,SAM,seval,rdB,Hk.out zc];simp[crs,crsL,jaE]))
end
end
end Go.Proofs.YtienkkicehmchaaGreatDoor
