/- Texts of this claim, merged by a program of this claim: FBytes. -/
import Derived.Test.YtienkkicehmchaaGreatDoorDl15
import Derived.Test.YtienkkicehmchaaGreatDoorDl16
import Derived.Test.YtienkkicehmchaaGreatDoorDl6
namespace Go.Proofs.YtienkkicehmchaaGreatDoor
open Cos renaming intro→qaa
open And renaming intro→qab
open List renaming length_append→qac,take_of_length_le→qad,mem_of_mem_take→qae,length_take→qaf,length→qag
noncomputable section
set_option linter.unusedVariables false
set_option linter.unusedSimpArgs false
section
open Go.RowKit
set_option maxRecDepth 100000
set_option maxHeartbeats 4000000
def jau (L:List Int):List Int:=L.flatMap fun x=>varN x.toNat
theorem jdH {L:List Int}{k:Nat}(h:k<L.length):jau (L.take (k+1))=jau (L.take k)++varN (L.getD k 0).toNat:=by
 rw[jar (jax (d:=0) h),jau,List.flatMap_append]
 simp[jau]
theorem jcj (L:List Int) (h:∀x∈L,x<18446744073709551616):(jau L).length≤10*L.length:=by
 induction L with
 | nil=>simp[jau]
 | cons a L ih =>
  have h1:=jan a.toNat (by have:=h a (by simp);omega)
  have h2:=ih fun x hx=>h x (by simp[hx])
  simp only[jau,List.flatMap_cons,qac,List.length_cons]at *
  omega
theorem jms {n:Int}(h0:0≤n) (h:¬n<128):varN n.toNat=(n % 128+128)::varN (n / 128).toNat:=by
 obtain⟨m,rfl⟩:∃m:Nat,n=m:=⟨n.toNat,by omega⟩
 rw[Int.toNat_natCast,jg4 (by omega)]
 congr 1
theorem jbQ {n:Int}(h0:0≤n) (h:n<128):varN n.toNat=[n]:=by
 rw[jdG (by omega)]
 congr 1
 omega
theorem jx3 (m:Int):IntKind.u8.wrap m=m % 256:=by
 simp only[IntKind.wrap,IntKind.signed,IntKind.bits,Bool.false_and,Bool.false_eq_true,if_false]
 rfl
theorem jyw {m:Int}(h:0≤m):((m % 256).toNat ||| 128)=(m % 128+128).toNat:=by
 have:=jsf ⟨(m % 256).toNat,by omega⟩
 simp only at this
 rw[this]
 omega
abbrev q_var (n:Int):QA:=([.int .u64 n],0≤n∧n<18446744073709551616,.ret (.vec (.int .u8) (varN n.toNat)))
def sp_var:=spQ (u1 q_var)
theorem jeH:W1 (hA sp_var) q_var:=w1 (aA rfl)
theorem jmt:Fre 168 sp_var:=ofT (u1 q_var) fun n hG=>tfi .nil 0 jcM (by
 dsimp only[u1,q_var]at hG ⊢
 repeat' first|refine tU ?_|refine qab ?_ ?_|(refine tI ?_;intro hyp)|intro hyp0|exact tZ|omega
 refine T.loop (fun x:List Int×Int=>⟨[(0,.int .u64 x.2),(3,.slice 0 0 1 x.1.length x.1.length)],[.seq (.int .u8) x.1]⟩) (fun x=>(0≤x.2∧x.2<18446744073709551616)∧varN n.toNat=x.1++varN x.2.toNat) (fun x=>x.2.toNat) ([],n) ⟨by omega,rfl⟩ (qaa [99] [] rfl (by simp only[PB,SAM,seval,rdB,Hk.out zc];first|done|simp[crs,crsL,jaE])) (fun⟨P,m⟩ ⟨hm,hv⟩=>?_)
 dsimp only at hm hv ⊢
 have h10:=jan n.toNat (by omega)
 have hlen:=congrArg qag hv
 rw[qac]at hlen
 have hpos:=jo5 m.toNat
 have hw:=jx3 m
 have hw2:=jyw hm.1
 repeat' first|exact (by decide:(7:Int)≤64)|refine tU ?_|refine qab ?_ ?_|(refine tI ?_;intro hyp)|intro hyp0|exact tZ|omega
 ·refine⟨(P++[m % 128+128],m / 128),⟨by simp only;omega,?_⟩,by simp only;omega,qaa [2] [] rfl ?_⟩
  ·rw[hv,jms hm.1 (by omega)]
   simp
  ·rw[show ((m % 128+128).toNat:Int)=m % 128+128 by omega]
   simp only[PB,SAM,seval,rdB,Hk.out zc]
   simp
 ·exact Cos.row (t:=.int .u8) (L:=varN n.toNat) rfl (by rw[hv,jbQ hm.1 (by omega),show m % 256=m by omega]) (by simp) (by simp))
abbrev q_rvar (n:Int):QA:=([.int .u64 n],0≤n∧n<18446744073709551616,.ret (.vec (.int .u8) (varN n.toNat)))
def sp_rvar:=spQ (u1 q_rvar)
theorem jg9:W1 (hA sp_rvar) q_rvar:=w1 (aA rfl)
theorem jnY:Fre 110 sp_rvar:=ofT (u1 q_rvar) fun n hG=>tfi .nil 0 jgq (by
 dsimp only[u1,q_rvar]at hG ⊢
 repeat' first|refine tU ?_|refine qab ?_ ?_|(refine tI ?_;intro hyp)|intro hyp0|exact tZ|omega
 refine T.loop (fun x:List Int×Int=>⟨[(0,.int .u64 x.2),(3,.slice 0 0 1 x.1.length x.1.length)],[.seq (.int .u8) x.1]⟩) (fun x=>(0≤x.2∧x.2<18446744073709551616)∧varN n.toNat=x.1++varN x.2.toNat) (fun x=>x.2.toNat) ([],n) ⟨by omega,rfl⟩ (qaa [0] [] rfl (by simp only[PB,SAM,seval,rdB,Hk.out zc])) (fun⟨P,m⟩ ⟨hm,hv⟩=>?_)
 dsimp only at hm hv ⊢
 have h10:=jan n.toNat (by omega)
 have hlen:=congrArg qag hv
 rw[qac]at hlen
 have hpos:=jo5 m.toNat
 have hw:=jx3 m
 have hw2:IntKind.u64.wrap (m % 128+128)=m % 128+128:=jh3 (by omega)
 have hw3:IntKind.u8.wrap (m % 128+128)=m % 128+128:=w_u8 (by omega)
 repeat' first|refine tU ?_|refine qab ?_ ?_|(refine tI ?_;intro hyp)|intro hyp0|exact tZ|omega
 ·exact Cos.row (t:=.int .u8) (L:=varN n.toNat) rfl (by rw[hv,jbQ hm.1 (by omega),show m % 256=m by omega]) (by simp) (by simp)
 ·refine⟨(P++[m % 128+128],m / 128),⟨by simp only;omega,?_⟩,by simp only;omega,qaa [2] [] rfl (by exact tF)⟩
  rw[hv,jms hm.1 (by omega)]
  simp)
abbrev q_vars (L:List Int):QA:=([.vec (.int .i64) L],(∀x∈L,0≤x∧x<9223372036854775808)∧L.length≤100000,.ret (.vec (.int .u8) (jau L)))
def sp_vars:=spQ (u1 q_vars)
theorem jha:W1 (hA sp_vars) q_vars:=w1 (aA rfl)
theorem jnZ:Fre 180 sp_vars:=ofT (u1 q_vars) fun L hG=>tfi (.t [.any] jcM jmt .nil) 0 jdj (by
 dsimp only[u1,q_vars]at hG ⊢
 have zc:=Hk.mk (@jeH)
 obtain⟨hL,hl⟩:=hG
 repeat' first|refine tU ?_|refine qab ?_ ?_|(refine tI ?_;intro hyp)|intro hyp0|exact tZ|omega
 refine T.loop (fun k:Nat=>⟨[(3,.slice 0 0 1 (jau (L.take k)).length (jau (L.take k)).length),(6,.vec (.int .i64) L),(7,.int .i64 L.length),(8,.int .i64 k)],[.seq (.int .u8) (jau (L.take k))]⟩) (fun k=>k≤L.length) (fun k=>L.length-k) 0 (by omega) (qaa [99] [] rfl (by simp only[PB,SAM,seval,rdB,Hk.out zc];simp[jau,crs,crsL,jaE])) (fun k hk=>?_)
 have hvl:=jcj (L.take k) fun x hx=>by have:=hL x (qae hx);omega
 rw[qaf]at hvl
 by_cases hkl:k<L.length
 ·have hx:=hL _ (List.mem_of_getElem? (jax (d:=0) hkl))
  have h10:=jan (L.getD k 0).toNat (by omega)
  have hw:IntKind.u64.wrap (L.getD k 0)=L.getD k 0:=jh3 (by omega)
  have hsn:=jdH hkl
  repeat' first|refine tU ?_|refine qab ?_ ?_|(refine tI ?_;intro hyp)|intro hyp0|exact tZ|omega
  refine⟨k+1,by omega,by omega,qaa [2] [] rfl ?_⟩
  rw[hsn]
  exact tF
 ·have e:L.take k=L:=qad (by omega)
  rw[e]
  repeat' first|refine tU ?_|refine qaa [0] [] rfl ?_|refine qab ?_ ?_|(refine tI ?_;intro hyp)|intro hyp0|exact tZ|omega)
abbrev q_rvars (L:List Int):QA:=([.vec (.int .i64) L],(∀x∈L,0≤x∧x<9223372036854775808)∧L.length≤100000,.ret (.vec (.int .u8) (jau L)))
def sp_rvars:=spQ (u1 q_rvars)
theorem jfM:W1 (hA sp_rvars) q_rvars:=w1 (aA rfl)
theorem jlw:Fre 64 sp_rvars:=ofT (u1 q_rvars) fun L hG=>tfi (.t [.any] jgq jnY .nil) 0 je8 (by
 dsimp only[u1,q_rvars]at hG ⊢
 have zc:=Hk.mk (@jg9)
 obtain⟨hL,hl⟩:=hG
 repeat' first|refine tU ?_|refine qab ?_ ?_|(refine tI ?_;intro hyp)|intro hyp0|exact tZ|omega
 refine T.loop (fun k:Nat=>⟨[(0,.vec (.int .i64) L),(3,.slice 0 0 1 (jau (L.take k)).length (jau (L.take k)).length),(7,.int .i64 L.length),(8,.int .i64 k)],[.seq (.int .u8) (jau (L.take k))]⟩) (fun k=>k≤L.length) (fun k=>L.length-k) 0 (by omega) (qaa [0] [] rfl (by simp only[PB,SAM,seval,rdB,Hk.out zc];simp[jau])) (fun k hk=>?_)
 have hvl:=jcj (L.take k) fun x hx=>by have:=hL x (qae hx);omega
 rw[qaf]at hvl
 by_cases hkl:k<L.length
 ·have hx:=hL _ (List.mem_of_getElem? (jax (d:=0) hkl))
  have h10:=jan (L.getD k 0).toNat (by omega)
  have hw:IntKind.u64.wrap (L.getD k 0)=L.getD k 0:=jh3 (by omega)
  have hsn:=jdH hkl
  repeat' first|refine tU ?_|refine qab ?_ ?_|(refine tI ?_;intro hyp)|intro hyp0|exact tZ|omega
  refine⟨k+1,by omega,by omega,qaa [2] [] rfl ?_⟩
  rw[hsn]
  exact tF
 ·have e:L.take k=L:=qad (by omega)
  rw[e]
  repeat' first|refine tU ?_|refine qaa [0] [] rfl ?_|refine qab ?_ ?_|(refine tI ?_;intro hyp)|intro hyp0|exact tZ|omega)
abbrev jo8:List AK:=[.any,.sl (.int .i64)]
abbrev q_put (b:Int) (L:List Int):QA:=([.int .u8 b,.vec (.int .i64) L],(∀x∈L,0≤x∧x<9223372036854775808)∧L.length≤100000,.ret (.vec (.int .u8) (b::jau L)))
def sp_put:=spQ (u2 q_put)
theorem jgr:W2 (hA sp_put) q_put:=w2 (aA rfl)
theorem jo9:Fre 150 sp_put:=ofT (u2 q_put) fun⟨b,L⟩ hG=>tfi (.t [.sl (.int .i64)] jdj jnZ .nil) 0 jcX (by
 dsimp only[u2,q_put]at hG ⊢
 have zc:=Hk.mk (@jha)
 obtain⟨hL,hl⟩:=hG
 have hvl:=jcj L fun x hx=>by have:=hL x hx;omega
 repeat' first|exact hL|refine tU ?_|refine qab ?_ ?_|(refine tI ?_;intro hyp)|intro hyp0|exact tZ|omega
 exact qaa [2] [] rfl (by exact tF))
abbrev q_text (L:List Int):QA:=([.vec (.int .u8) L],L.length≤4096,.ret (.tup [.vec (.int .u8) (jeE L),.int .i64 0]))
def sp_text:=spQ (u1 q_text)
theorem jkt:W1 (hA sp_text) q_text:=w1 (aA rfl)
theorem jsh:Fre 166 sp_text:=ofT (u1 q_text) fun L hG=>tfi (.t [.any] jcM jmt .nil) 0 jfL (by
 dsimp only[u1,q_text]at hG ⊢
 have zc:=Hk.mk (@jeH)
 have hw:IntKind.u64.wrap L.length=L.length:=jh3 (by omega)
 have h10:=jan L.length (by omega)
 repeat' first|refine tU ?_|refine qab ?_ ?_|(refine tI ?_;intro hyp)|intro hyp0|exact tZ|omega
 refine qaa [1] [] rfl ?_
 simp only[jeE]
 exact tF)
abbrev q_rtext (L:List Int):QA:=([.vec (.int .u8) L],L.length≤4096,.ret (.tup [.vec (.int .u8) (jeE L),.int .i64 0]))
def sp_rtext:=spQ (u1 q_rtext)
theorem ji8:W1 (hA sp_rtext) q_rtext:=w1 (aA rfl)
theorem jpa:Fre 111 sp_rtext:=ofT (u1 q_rtext) fun L hG=>tfi (.t [.any] jgq jnY .nil) 0 jg7 (by
 dsimp only[u1,q_rtext]at hG ⊢
 have zc:=Hk.mk (@jg9)
 have hw:IntKind.u64.wrap L.length=L.length:=jh3 (by omega)
 have h10:=jan L.length (by omega)
 repeat' first|refine tU ?_|refine qab ?_ ?_|(refine tI ?_;intro hyp)|intro hyp0|exact tZ|omega
 refine qaa [1] [] rfl ?_
 simp only[jeE]
 exact tF)
abbrev jpb:List AK:=[.sl (.int .u8),.sl (.int .u8)]
abbrev q_bsame (L M:List Int):QA:=([.vec (.int .u8) L,.vec (.int .u8) M],L.length≤4611686018427387904∧M.length≤4611686018427387904,.ret (.bool (decide (L=M))))
def sp_bsame:=spQ (u2 q_bsame)
theorem ji9:W2 (hA sp_bsame) q_bsame:=w2 (aA rfl)
theorem juH:Al 14 sp_bsame:=ofA (u2 q_bsame) fun⟨L,M⟩ hG=>tfi .nil 0 jg8 (by
 dsimp only[u2,q_bsame]at hG ⊢
 repeat' first|refine tU ?_|refine qaa [] [] rfl ?_|refine qab ?_ ?_|(refine tI ?_;intro hyp)|intro hyp0|exact tZ|omega
 ·exact (decide_eq_false fun e=>by subst e;omega).symm
 ·refine T.loop (fun k:Nat=>⟨[(0,.vec (.int .u8) L),(1,.vec (.int .u8) M),(12,.int .i64 L.length),(13,.int .i64 k)],[]⟩) (fun k=>k≤L.length∧∀j,j<k→L[j]?=M[j]?) (fun k=>L.length-k) 0 ⟨by omega,fun j hj=>by omega⟩ (qaa [] [] rfl (by exact tG)) (fun k ⟨hk,hall⟩=>?_)
  repeat' first|refine tU ?_|refine qaa [] [] rfl ?_|exact⟨k+1,⟨by omega,jdD (by omega) (by omega) hyp hall⟩,by omega,(qaa [] [] rfl (by exact tG))⟩|refine qab ?_ ?_|(refine tI ?_;intro hyp)|intro hyp0|exact tZ|omega
  ·exact (decide_eq_false fun e=>by subst e;exact hyp rfl).symm
  ·exact (decide_eq_true (je2 (by omega) (by omega) hall)).symm)
theorem jpc:Fre 14 sp_bsame:=ofF (u2 q_bsame) juH fun _=>rfl
end
end
end Go.Proofs.YtienkkicehmchaaGreatDoor
