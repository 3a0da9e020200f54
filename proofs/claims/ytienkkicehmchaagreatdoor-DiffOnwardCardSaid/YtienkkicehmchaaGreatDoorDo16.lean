/- Texts of this claim, merged by a program of this claim: FGrid2, FDif3, FRun. -/
import Derived.Test.YtienkkicehmchaaGreatDoorDo11
import Derived.Test.YtienkkicehmchaaGreatDoorDo12
import Derived.Test.YtienkkicehmchaaGreatDoorDo13
import Derived.Test.YtienkkicehmchaaGreatDoorDo15
import Derived.Test.YtienkkicehmchaaGreatDoorDo6
namespace Go.Proofs.YtienkkicehmchaaGreatDoor
open And renaming intro→qaa
open Cos renaming intro→qab
open Int renaming toNat_natCast→qac
open Nat renaming mul_le_mul_right→qad,mul_comm→qae,succ_mul→qaf,mul_le_mul→qag
noncomputable section
set_option linter.unusedVariables false
set_option linter.unusedSimpArgs false
section
open Go.RowKit
set_option maxRecDepth 100000
set_option maxHeartbeats 4000000
def selC (c1 c2:Con):Con:=fun ARGS H=>if (jdv ARGS).isEmpty=true then c2 ARGS H else c1 ARGS H
theorem juE (c1 c2:Con) (ARGS:List CV) (H:KH):selC c1 c2 ARGS H=if (jdv ARGS).isEmpty=true then c2 ARGS H else c1 ARGS H:=rfl
theorem jlx {P:Program}{E:Nat→Option (List CV)}{F:FuncId}{c1 c2:Con}(h1:jgq P E F c1) (h2:jgq P E F c2):jgq P E F (selC c1 c2):=fun ARGS H G r H' hc hG=>by
 unfold selC at hc
 split at hc
 ·exact h2 ARGS H G r H' hc hG
 ·exact h1 ARGS H G r H' hc hG
abbrev jzv:List AK:=[.agg [.any,.any,.sl .cell],.any]
abbrev q_gown (k r:Int) (L:List CD) (p:PD):QA:=([.agg [.int .i64 k,.int .i64 r,.vec .cell L],penV p],jbo k r L=true∧penB p=true∧CWs L∧L.length≤1000000,.ret (.tup [.agg [.int .i64 k,.int .i64 r,.vec .cell L],.bool true]))
def sp_gown:=spQ (u4 q_gown)
theorem jr8:W4 (hA sp_gown) q_gown:=w4 (aA rfl)
theorem jzw:Fre 205 sp_gown:=ofT (u4 q_gown) fun⟨k,r,L,p⟩ hG=>tfi (.f jtL jh6 jtM (.f [.any] jhj jy3 (.t [.sl .cell] jau jdM .nil))) 0 jlg (by
 dsimp only[u4,q_gown]at hG ⊢
 have zc:=Hk.mk (qaa @jll (qaa @jrG @jbz))
 obtain⟨hw,hw2,hc,hl⟩:=hG
 repeat' first|exact hc|refine tU ?_|refine qab [3] [] rfl ?_|refine qaa ?_ ?_|(refine tI ?_;intro hyp)|intro hyp0|exact tZ|omega)
theorem jn3 {L:List CD}{k r t b:Nat}{p:PD}(hL:L.length=k*r):(jcs (jat L k r) t b 0 p).flatten=L:=by
 have e:jcs (jat L k r) t b 0 p=jat L k r:=by
  unfold jcs
  rw[jbR]
  unfold jat
  refine List.map_congr_left fun y hy=>?_
  have hy:=List.mem_range.1 hy
  have h0:mAt ((List.range r).map (jax L k)) y=jax L k y:=jcz hy
  unfold scrG
  split
  ·split
   ·rw[Int.add_zero,qac,h0]
   ·omega
  ·exact h0
 rw[e,jem hL]
abbrev jr9:List AK:=[.agg [.any,.any,.sl .cell],.any,.any,.any,.any]
abbrev q_gscroll (k r:Int) (L:List CD) (t b m:Int) (p:PD):QA:=([.agg [.int .i64 k,.int .i64 r,.vec .cell L],.int .i64 t,.int .i64 b,.int .i64 m,penV p],jbo k r L=true∧penB p=true∧CWs L∧(0≤t∧t≤b∧b<r)∧(-1000000≤m∧m≤1000000),.ret (.agg [.int .i64 k,.int .i64 r,.vec .cell (jcs (jat L k.toNat r.toNat) t.toNat b.toNat m p).flatten]))
def sp_gscroll:=spQ (u7 q_gscroll)
theorem jmJ:W7 (hA sp_gscroll) q_gscroll:=w7 (aA rfl)
theorem jsa:Fre 196 sp_gscroll:=ofT (u7 q_gscroll) fun⟨k,r,L,t,b,m,p⟩ hG=>tfi (.t jzv jlg jzw (.cons (jaY jfT) (jlx (MutF.soundM jwP) (Alias.soundA (ks:=jtJ) jtK)) (.f [.any] jdJ jjV .nil))) 0 jhn (by
 dsimp only[u7,q_gscroll]at hG ⊢
 have zc:=Hk.mk (qaa @jr8 (qaa @jnF (qaa @jlk (qaa @juE @jfp))))
 obtain⟨hg,hp,hc,ht,hm⟩:=hG
 have hg2:=hg
 simp only[jbo,HB,ne_eq,reduceCtorEq]at hg2
 have hf:=jcb.1 hg2.1.1
 obtain⟨k,rfl⟩:∃n:Nat,k=n:=⟨k.toNat,by omega⟩
 obtain⟨r,rfl⟩:∃n:Nat,r=n:=⟨r.toNat,by omega⟩
 obtain⟨t,rfl⟩:∃n:Nat,t=n:=⟨t.toNat,by omega⟩
 obtain⟨b,rfl⟩:∃n:Nat,b=n:=⟨b.toNat,by omega⟩
 have hln:L.length=k*r:=by
  have:(L.length:Int)=((k*r:Nat):Int):=by rw[hg2.1.2];simp
  omega
 have hkr:k*r≤1920:=qag (show k≤80 by omega) (show r≤24 by omega)
 obtain⟨c,hcd⟩:∃c,c=max (-((b:Int)-t+1)) (min m ((b:Int)-t+1)):=⟨_,rfl⟩
 have hw:=hcd.symm
 simp only[qac]
 rw[←jmz (by omega) hcd]
 have hfl:(jcs (jat L k r) t b c p).flatten.length=L.length:=by
  rw[←jnJ (p:=p) hln (by omega) (by omega),jnI hln (by omega) (by omega)]
 repeat' first|exact hc|refine tU ?_|refine qaa ?_ ?_|(refine tI ?_;intro hyp)|intro hyp0|exact tZ|omega
 ·have:c=0:=by omega
  rw[this,jn3 hln]
  exact qab [3] [] rfl (by exact tF)
 refine T.loop (fun y:Nat=>⟨[(1,.int .i64 t),(2,.int .i64 b),(3,.int .i64 c),(5,.ptr 0 0 0),(9,.ptr 1 0 0),(10,.ptr 2 0 0),(11,.ptr 4 0 0),(14,.int .i64 y)],[.box [.int .i64 k,.int .i64 r,.vec .cell L],.box [.int .u32 p.fg,.int .u32 p.bg,.int .u8 p.attrs,.int .u16 p.link],.box [.int .i64 0,.int .i64 0,.nils],.seq .cell (jdx L k r t b c p y),.box [.int .i64 k,.int .i64 r,.slice 3 0 6 L.length L.length]]⟩) (fun y=>t≤y∧y≤b+1) (fun y=>b+1-y) t ⟨by omega,by omega⟩ (qab [0,1,2,3,4] [] rfl (by rw[jo9 (by omega)];exact tF)) (fun y ⟨hty,hyb⟩=>?_)
 have hsl:=jnI (p:=p) (m:=c) (top:=t) hln (show b<r by omega) (show y≤r by omega)
 by_cases hyb2:y≤b
 ·have hrow:(y+1)*k≤L.length:=by
   rw[hln,qae k r]
   exact qad k (by omega)
  have hra:=(ja1 hln).at_ (show y<r by omega)
  by_cases hin:(t:Int)≤y+c∧(y:Int)+c≤b
  ·obtain⟨z,hz⟩:∃z:Nat,(y:Int)+c=z:=⟨((y:Int)+c).toNat,by omega⟩
   have hsg:jax L k z=scrG (jat L k r) t b c p y:=by
    unfold scrG
    rw[if_pos (by omega),if_pos hin,hz,qac,jcz (by omega)]
   have hst:=jlq (m:=c) hln (show b<r by omega) (show y<r by omega) _ hsg
   have hzr:(z+1)*k≤L.length:=by
    rw[hln,qae k r]
    exact qad k (by omega)
   have hzl:=jbd hln (show z<r by omega)
   have hw2:=hz
   have hyk:y*k+k≤L.length:=by rw[←qaf];exact hrow
   have hw3:List.take (min (jax L k z).length k) (jax L k z)=jax L k z:=List.take_of_length_le (by omega)
   have hw4:min (jax L k z).length k=k:=by omega
   rw[hzl]at hst
   repeat' first|exact hc|(rw[hsl];exact hyk)|refine tU ?_|refine qaa ?_ ?_|(refine tI ?_;intro hyp)|intro hyp0|exact tZ|omega
   exact⟨y+1,⟨by omega,by omega⟩,by omega,qab [0,1,2,3,4] [] rfl (by rw[hst];exact tF)⟩
  ·have hyk:y*k+k≤L.length:=by rw[←qaf];exact hrow
   have hsg:List.replicate k (jdL p)=scrG (jat L k r) t b c p y:=by
    unfold scrG
    rw[if_pos (by omega),if_neg hin,hra.1]
   have hst:=jlq (m:=c) hln (show b<r by omega) (show y<r by omega) _ hsg
   rw[List.length_replicate]at hst
   repeat' first|exact hc|(rw[hsl];exact hyk)|refine tU ?_|refine qaa ?_ ?_|(refine tI ?_;intro hyp)|intro hyp0|exact tZ|omega
   refine T.loop (fun x:Nat=>⟨[(1,.int .i64 t),(2,.int .i64 b),(3,.int .i64 c),(5,.ptr 0 0 0),(9,.ptr 1 0 0),(10,.ptr 2 0 0),(11,.ptr 4 0 0),(14,.int .i64 y),(15,.slice 3 (y*k) 6 k k),(82,.int .i64 k),(83,.int .i64 x)],[.box [.int .i64 k,.int .i64 r,.vec .cell L],.box [.int .u32 p.fg,.int .u32 p.bg,.int .u8 p.attrs,.int .u16 p.link],.box [.int .i64 0,.int .i64 0,.nils],.seq .cell (jmA (jdx L k r t b c p y) y k (jdL p) x),.box [.int .i64 k,.int .i64 r,.slice 3 0 6 L.length L.length]]⟩) (fun x=>x≤k) (fun x=>k-x) 0 (by omega) (qab [0,1,2,3,4] [] rfl (by rw[jrX];exact tF)) (fun x hx=>?_)
   by_cases hxk:x<k
   ·have hput:=jtX (S:=jdx L k r t b c p y) (b:=jdL p) (show y*k+x<(jdx L k r t b c p y).length by omega)
    have hrl:=jtW (S:=jdx L k r t b c p y) (y:=y) (k:=k) (b:=jdL p) (x:=x) (by omega)
    have hw3:({ fg:=p.fg,bg:=p.bg,attrs:=p.attrs,link:=p.link }:PD)=p:=rfl
    repeat' first|exact hc|(rw[hsl];exact hyk)|(rw[hrl,hsl];omega)|refine tU ?_|refine qaa ?_ ?_|(refine tI ?_;intro hyp)|intro hyp0|exact tZ|omega
    exact⟨x+1,by omega,by omega,qab [0,1,2,3,4] [] rfl (by rw[hput];exact tF)⟩
   ·obtain rfl:x=k:=by omega
    have hrt:jmA (jdx L x r t b c p y) y x (jdL p) x=jdx L x r t b c p (y+1):=hst
    repeat' first|exact hc|refine tU ?_|refine qaa ?_ ?_|(refine tI ?_;intro hyp)|intro hyp0|exact tZ|omega
    exact⟨y+1,⟨by omega,by omega⟩,by omega,qab [0,1,2,3,4] [] rfl (by rw[hrt];exact tF)⟩
 ·obtain rfl:y=b+1:=by omega
  rw[jnJ hln (by omega) (by omega)]
  repeat' first|exact hc|refine tU ?_|refine qab [3] [] rfl ?_|refine qaa ?_ ?_|(refine tI ?_;intro hyp)|intro hyp0|exact tZ|omega)
end
section
open Go.RowKit
set_option maxRecDepth 100000
set_option maxHeartbeats 4000000
theorem jzx:penB ⟨0,0,0,0⟩=true:=by decide
theorem jfX {k r:Int}{L:List CD}(h:jbo k r L=true):(1≤k∧k≤80)∧(1≤r∧r≤24)∧(L.length:Int)=k*r∧L.length≤1920:=by
 have hg2:=h
 simp only[jbo,HB,ne_eq,reduceCtorEq]at hg2
 have hf:=jcb.1 hg2.1.1
 have h1:k*r≤80*r:=Int.mul_le_mul_of_nonneg_right (by omega) (by omega)
 refine⟨by omega,by omega,hg2.1.2,?_⟩
 have:=hg2.1.2
 omega
abbrev jiF:List AK:=[.agg [.any,.any,.sl .cell,.any,.any,.any,.any,.any,.sl .str],.any]
abbrev q_mscrolled (k r:Int) (L:List CD) (x y:Int) (hd:Bool) (mo:Int) (ti:ByteArray) (l:List ByteArray) (m:Int):QA:=([.agg [.int .i64 k,.int .i64 r,.vec .cell L,.int .i64 x,.int .i64 y,.bool hd,.int .u8 mo,.str ti,.vec .str l],.int .i64 m],jbo k r L=true∧CWs L∧(-1000000≤m∧m≤1000000),.ret (.vec .cell (jbi (jat L k.toNat r.toNat) m).flatten))
def sp_mscrolled:=spQ (u10 q_mscrolled)
theorem jfB:W10 (hA sp_mscrolled) q_mscrolled:=w10 (aA rfl)
theorem jiG:Fre 177 sp_mscrolled:=ofT (u10 q_mscrolled) fun⟨k,r,L,x,y,hd,mo,ti,l,m⟩ hG=>tfi (.t jr9 jhn jsa .nil) 0 jcP (by
 dsimp only[u10,q_mscrolled]at hG ⊢
 have zc:=Hk.mk (qaa @jmJ (qaa @tq0 (qaa @tq1 @tq2)))
 obtain⟨hg,hc,hm⟩:=hG
 have hf:=jfX hg
 have hsa:=jpa (L:=L) (k:=k.toNat) (r:=r.toNat) (by omega) m
 have hw:(r-1).toNat=r.toNat-1:=by omega
 have hw2:jcs (jat L k.toNat r.toNat) 0 (r.toNat-1) m { fg:=0,bg:=0,attrs:=0,link:=0 }=jbi (jat L k.toNat r.toNat) m:=hsa
 repeat' first|exact hg|exact jzx|exact hc|refine tU ?_|refine qaa ?_ ?_|(refine tI ?_;intro hyp)|intro hyp0|exact tZ|omega
 exact qab [2] [] rfl (by exact tF))
abbrev juF:List AK:=[.agg [.any,.any,.sl .cell,.any,.any,.any,.any,.any,.sl .str],.any]
abbrev q_mrow (k r:Int) (L:List CD) (x y:Int) (hd:Bool) (mo:Int) (ti:ByteArray) (l:List ByteArray) (v:Int):QA:=([.agg [.int .i64 k,.int .i64 r,.vec .cell L,.int .i64 x,.int .i64 y,.bool hd,.int .u8 mo,.str ti,.vec .str l],.int .i64 v],(0≤k∧k≤100)∧(0≤v∧v≤1000)∧(v.toNat+1)*k.toNat≤L.length∧L.length≤1000000,.ret (.vec .cell (jax L k.toNat v.toNat)))
def sp_mrow:=spQ (u10 q_mrow)
theorem jly:W10 (hA sp_mrow) q_mrow:=w10 (aA rfl)
theorem juG:Al 197 sp_mrow:=ofA (u10 q_mrow) fun⟨k,r,L,x,y,hd,mo,ti,l,v⟩ hG=>tfi .nil 0 jeX (by
 dsimp only[u10,q_mrow]at hG ⊢
 have zc:=Hk.mk (qaa @tq0 (qaa @tq1 @tq2))
 obtain⟨hk,hv,hl,hL⟩:=hG
 obtain⟨k,rfl⟩:∃n:Nat,k=n:=⟨k.toNat,by omega⟩
 obtain⟨v,rfl⟩:∃n:Nat,v=n:=⟨v.toNat,by omega⟩
 simp only[qac]at hl ⊢
 have hm:=jei hl
 have hm2:(v+1)*k=v*k+k:=by rw[Nat.add_mul];omega
 have hvk:v*k≤1000000:=by omega
 repeat' first|refine tU ?_|refine qab [] [0,1,2,3,4,5,6,7,8,9] rfl ?_|refine qaa ?_ ?_|(refine tI ?_;intro hyp)|intro hyp0|exact tZ|omega
 rfl)
theorem jev (l:List Nat):ja3 (l.map Int.ofNat)=jar l:=by
 unfold ja3 jar
 rw[List.flatMap_map]
 rfl
theorem jhB (l m:List Nat):jar (l++m)=jar l++jar m:=by
 unfold jar
 rw[List.flatMap_append]
abbrev jsb:List AK:=[.agg [.any,.any,.sl .cell,.any,.any,.any,.any,.any,.sl .str],.agg [.any,.any,.sl .cell,.any,.any,.any,.any,.any,.sl .str]]
abbrev q_mcopies (k r:Int) (L:List CD) (x y:Int) (hd:Bool) (mo:Int) (ti:ByteArray) (l:List ByteArray) (k' r':Int) (L':List CD) (x' y':Int) (hd':Bool) (mo':Int) (ti':ByteArray) (l':List ByteArray):QA:=([.agg [.int .i64 k,.int .i64 r,.vec .cell L,.int .i64 x,.int .i64 y,.bool hd,.int .u8 mo,.str ti,.vec .str l],.agg [.int .i64 k',.int .i64 r',.vec .cell L',.int .i64 x',.int .i64 y',.bool hd',.int .u8 mo',.str ti',.vec .str l']],(k=k'∧r=r')∧((0≤k∧k≤100)∧(0≤r∧r≤100))∧L.length=k.toNat*r.toNat∧L'.length=k.toNat*r.toNat,.ret (.tup [.vec .cell (cpyL k.toNat r.toNat L L'),.vec (.int .u8) (jj2 (jak (jat L k.toNat r.toNat) (jat L' k.toNat r.toNat) r.toNat).1)]))
def sp_mcopies:=spQ (u18 q_mcopies)
theorem jmK:W18 (hA sp_mcopies) q_mcopies:=w18 (aA rfl)
theorem jsc:Fre 178 sp_mcopies:=ofT (u18 q_mcopies) fun⟨k,r,L,x,y,hd,mo,ti,l,k',r',L',x',y',hd',mo',ti',l'⟩ hG=>tfi (.t [.sl .cell] jau jdM (.a juF jeX juG (.f [.sl .cell,.sl .cell] jbh jmx (.t [.sl (.int .i64)] jdK jo7 (.t jqn jdk jqo .nil))))) 0 jet (by
 dsimp only[u18,q_mcopies]at hG ⊢
 have zc:=Hk.mk (qaa @jbz (qaa @jly (qaa @jgA (qaa @jh9 (qaa @jho (qaa @tq0 (qaa @tq1 @tq2)))))))
 obtain⟨⟨rfl,rfl⟩,⟨hk,hr⟩,hL,hL'⟩:=hG
 obtain⟨k,rfl⟩:∃n:Nat,k=n:=⟨k.toNat,by omega⟩
 obtain⟨r,rfl⟩:∃n:Nat,r=n:=⟨r.toNat,by omega⟩
 simp only[qac]at hL hL' ⊢
 have hkr:k*r≤10000:=qag (show k≤100 by omega) (show r≤100 by omega)
 have hA:=ja1 hL
 have hB:=ja1 hL'
 obtain⟨A,hAd⟩:∃A,A=jat L k r:=⟨_,rfl⟩
 obtain⟨B,hBd⟩:∃B,B=jat L' k r:=⟨_,rfl⟩
 have hcp:cpyL k r L L'=((List.range r).map (jcc A B)).flatten:=by rw[hAd,hBd];rfl
 have hma:∀y,y<r→jax L k y=mAt A y:=fun y h=>by rw[hAd];exact (jcz h).symm
 have hmb:∀y,y<r→jax L' k y=mAt B y:=fun y h=>by rw[hBd];exact (jcz h).symm
 rw[←hAd]at hA
 rw[←hBd]at hB
 have hstart:jbB A B 0=L:=by
  unfold jbB
  rw[hAd]
  simpa using jem hL
 rw[hcp,←hAd,←hBd]
 have hal:=hA.len
 repeat' first|refine tU ?_|refine qaa ?_ ?_|(refine tI ?_;intro hyp)|intro hyp0|exact tZ|omega
 refine T.loop (fun v:Nat=>⟨[(2,.ptr 0 0 0),(3,.ptr 1 0 0),(6,.slice 2 0 6 (k*r) (k*r)),(7,.slice 3 0 1 (jar (jak A B v).1).length (jar (jak A B v).1).length),(8,.int .i64 ((jak A B v).1.length / 2:Nat)),(9,.int .i64 (jak A B v).2),(16,.int .i64 r),(17,.int .i64 v)],[.box [.int .i64 k,.int .i64 r,.vec .cell L,.int .i64 x,.int .i64 y,.bool hd,.int .u8 mo,.str ti,.vec .str l],.box [.int .i64 k,.int .i64 r,.vec .cell L',.int .i64 x',.int .i64 y',.bool hd',.int .u8 mo',.str ti',.vec .str l'],.seq .cell (jbB A B v),.seq (.int .u8) (jar (jak A B v).1)]⟩) (fun v=>v≤r) (fun v=>r-v) 0 (by omega) (qab [0,1,2,99] [] rfl (by rw[hstart];simp only[PB,SAM,seval,rdB,Hk.out zc];simp[jak,jar,crs,crsL,jaM,hL])) (fun v hv=>?_)
 have hnf:=jcG A B v
 have hne:=jeQ A B v
 have hvl:(jar (jak A B v).1).length≤20*v:=by
  have:=jbe (jak A B v).1 (fun x hx=>by have:=hnf.2.2 x hx;omega)
  omega
 have hcl:=jrZ hA hB (show v≤r from hv)
 by_cases hvr:v<r
 ·have hrow:(v+1)*k≤k*r:=by
   rw[qae k r]
   exact qad k hvr
  have hvk:v*k+k≤k*r:=by rw[←qaf];exact hrow
  have hw:=hma v hvr
  have hw2:=hmb v hvr
  have hbl:=(hB.at_ hvr).1
  have hal1:=(hA.at_ hvr).1
  by_cases heq:mAt A v=mAt B v
  ·have hsn:jak A B (v+1)=jak A B v:=by rw[jak,if_pos heq]
   have hcs:=jct (B:=B) (show v<A.length by omega) (jgF (by omega) heq)
   repeat' first|(rw[hL];exact hrow)|(rw[hL'];exact hrow)|exact absurd heq hyp|refine tU ?_|refine qaa ?_ ?_|(refine tI ?_;intro hyp)|intro hyp0|exact tZ|omega
   exact⟨v+1,by omega,by omega,qab [0,1,2,3] [] rfl (by rw[hsn,hcs];exact tF)⟩
  ·repeat' first|(rw[hL];exact hrow)|(rw[hL'];exact hrow)|exact absurd hyp heq|refine tU ?_|refine qaa ?_ ?_|(refine tI ?_;intro hyp)|intro hyp0|exact tZ|omega
   refine T.loop (fun z:Nat=>⟨[(2,.ptr 0 0 0),(3,.ptr 1 0 0),(6,.slice 2 0 6 (k*r) (k*r)),(7,.slice 3 0 1 (jar (jak A B v).1).length (jar (jak A B v).1).length),(8,.int .i64 ((jak A B v).1.length / 2:Nat)),(9,.int .i64 (jak A B v).2),(10,.int .i64 v),(16,.int .i64 r),(17,.int .i64 v),(28,.int .i64 r),(29,.int .i64 z)],[.box [.int .i64 k,.int .i64 r,.vec .cell L,.int .i64 x,.int .i64 y,.bool hd,.int .u8 mo,.str ti,.vec .str l],.box [.int .i64 k,.int .i64 r,.vec .cell L',.int .i64 x',.int .i64 y',.bool hd',.int .u8 mo',.str ti',.vec .str l'],.seq .cell (jbB A B v),.seq (.int .u8) (jar (jak A B v).1)]⟩) (fun z=>z≤r∧∀u,u<z→mAt A u≠mAt B v) (fun z=>r-z) 0 ⟨by omega,fun u hu=>by omega⟩ (qab [0,1,2,3] [] rfl (by exact tF)) (fun z ⟨hz,hno⟩=>?_)
   by_cases hzr:z<r
   ·have hrow2:(z+1)*k≤k*r:=by
     rw[qae k r]
     exact qad k hzr
    have hw3:=hma z hzr
    have hal2:=(hA.at_ hzr).1
    have hbd:(jak A B v).2≤v:=hnf.1
    have hvv:ja3 [(v:Int)-(jak A B v).2,(z:Int)]=jar [v-(jak A B v).2,z]:=by
     rw[←jev,List.map_cons,List.map_cons,List.map_nil]
     congr 2
     exact (Int.ofNat_sub hbd).symm
    have hw4:=hvv
    have hvl2:=jbe [v-(jak A B v).2,z] (fun u hu=>by simp at hu;omega)
    simp only[List.length_cons,List.length_nil]at hvl2
    by_cases hzz:mAt A z=mAt B v
    ·have hfz:=jia (n:=A.length) hno hzz (by omega)
     have hsn:jak A B (v+1)=((jak A B v).1++[v-(jak A B v).2,z],v+1):=by rw[jak,if_neg heq,hfz]
     have hcs:=jj3 hA hB hvr (jpc hno hzz (by omega))
     rw[hbl]at hcs
     have hm5:min (mAt B v).length (k*r-v*k)=k:=by omega
     have htk:List.take k (mAt B v)=mAt B v:=List.take_of_length_le (by omega)
     have hroom:v*k+(k*r-v*k)≤(jbB A B v).length:=by
      rw[hcl,qae r k]
      omega
     repeat' first|exact hroom|(rw[hL];exact hrow)|(rw[hL'];exact hrow)|(rw[hL];exact hrow2)|exact absurd hzz hyp|refine tU ?_|refine qaa ?_ ?_|(refine tI ?_;intro hyp)|intro hyp0|exact tZ|omega
     exact⟨v+1,by omega,by omega,qab [0,1,2,6] [] rfl (by rw[hm5,htk,hcs,hsn];simp only[jhB];exact tF)⟩
    ·repeat' first|(rw[hL];exact hrow)|(rw[hL'];exact hrow)|(rw[hL];exact hrow2)|exact absurd hyp hzz|refine tU ?_|refine qaa ?_ ?_|(refine tI ?_;intro hyp)|intro hyp0|exact tZ|omega
     exact⟨z+1,⟨by omega,fun u hu=>if e:u=z then by subst e;exact hzz else hno u (by omega)⟩,by omega,qab [0,1,2,3] [] rfl (by exact tF)⟩
   ·obtain rfl:z=r:=by omega
    have hsn:jak A B (v+1)=jak A B v:=by rw[jak,if_neg heq,jen (fun u hu=>hno u (by omega))]
    have hcs:=jct (B:=B) (show v<A.length by omega) (jpb fun u hu=>hno u (by omega))
    repeat' first|refine tU ?_|refine qaa ?_ ?_|(refine tI ?_;intro hyp)|intro hyp0|exact tZ|omega
    exact⟨v+1,by omega,by omega,qab [0,1,2,3] [] rfl (by rw[hsn,hcs];exact tF)⟩
 ·obtain rfl:v=r:=by omega
  have hce:jbB A B v=((List.range v).map (jcc A B)).flatten:=by
   unfold jbB
   rw[List.drop_of_length_le (by omega)]
   simp
  rw[←hce]
  obtain⟨nums,hnm⟩:∃nums,nums=(jak A B v).1:=⟨_,rfl⟩
  rw[←hnm]at hne hvl hnf ⊢
  have hw:ja3 [((nums.length / 2:Nat):Int)]=varN (nums.length / 2):=by simp only[ja3,List.flatMap_cons,List.flatMap_nil,List.append_nil,qac]
  have h10:=jaO (nums.length / 2) (by omega)
  repeat' first|refine tU ?_|refine qaa ?_ ?_|(refine tI ?_;intro hyp)|intro hyp0|exact tZ|omega
  ·have h0:nums=[]:=List.eq_nil_of_length_eq_zero (by omega)
   rw[h0]
   exact qab [2,99] [] rfl (by simp only[PB,SAM,seval,rdB,Hk.out zc];simp[jj2,crs,crsL,jaM,hcl,qae])
  ·have h0:nums≠[]:=fun e=>by rw[e]at hyp;exact hyp rfl
   refine qab [2,6] [] rfl ?_
   simp only[jj2,if_neg h0]
   simp only[PB,SAM,seval,rdB,Hk.out zc]
   simp[hcl,qae]
   omega)
end
section
open Go.RowKit
set_option maxRecDepth 100000
set_option maxHeartbeats 4000000
abbrev q_wideF (i:Nat) (k r:Int) (L:List CD) (x y:Int) (hd:Bool) (mo:Int) (ti:ByteArray) (l:List ByteArray):QM:=(([.int .i64 i,.ptr 0 0 0],[.box [.int .i64 k,.int .i64 r,.vec .cell L,.int .i64 x,.int .i64 y,.bool hd,.int .u8 mo,.str ti,.vec .str l]]),i<L.length∧L.length≤60000,.ret (.int .i64 (jaa L i)),[.box [.int .i64 k,.int .i64 r,.vec .cell L,.int .i64 x,.int .i64 y,.bool hd,.int .u8 mo,.str ti,.vec .str l]])
def msp_wideF:=mspQ (u10 q_wideF)
theorem jiH:W10 (hM msp_wideF) q_wideF:=w10 (aM rfl)
theorem jqy:Mu 198 msp_wideF:=ofM (u10 q_wideF) fun⟨i,k,r,L,x,y,hd,mo,ti,l⟩ hG=>tfi .nil 1 jcu (by
 dsimp only[u10,q_wideF]at hG ⊢
 obtain⟨hi,hl⟩:=hG
 have hwd:jaa L i=if (L.getD i default).wide=1 then 2 else 1:=by
  unfold jaa
  rw[jce hi]
 repeat' first|refine tU ?_|refine qaa ?_ ?_|(refine tI ?_;intro hyp)|intro hyp0|exact tZ|omega
 ·exact qab [0] [] rfl (by rw[hwd,if_pos hyp];exact tF)
 ·exact qab [0] [] rfl (by rw[hwd,if_neg hyp];exact tF))
abbrev q_otherF (i:Nat) (C:List CD) (k r:Int) (L:List CD) (x y:Int) (hd:Bool) (mo:Int) (ti:ByteArray) (l:List ByteArray):QM:=(([.int .i64 i,.ptr 0 0 0,.ptr 1 0 0,.ptr 2 0 0],[.box [.vec .cell C],.box [.fn 198 [.ptr 2 0 0]],.box [.int .i64 k,.int .i64 r,.vec .cell L,.int .i64 x,.int .i64 y,.bool hd,.int .u8 mo,.str ti,.vec .str l]]),i+jaa L i≤L.length∧C.length=L.length∧L.length≤60000,.ret (.bool (jaj C L i)),[.box [.vec .cell C],.box [.fn 198 [.ptr 2 0 0]],.box [.int .i64 k,.int .i64 r,.vec .cell L,.int .i64 x,.int .i64 y,.bool hd,.int .u8 mo,.str ti,.vec .str l]])
def msp_otherF:=mspQ (u11 q_otherF)
theorem jmL:W11 (hM msp_otherF) q_otherF:=w11 (aM rfl)
theorem juH:Mu 199 msp_otherF:=ofM (u11 q_otherF) fun⟨i,C,k,r,L,x,y,hd,mo,ti,l⟩ hG=>tfi (.m jcu jqy (.f [.sl .cell,.sl .cell] jbh jmx .nil)) 3 jeu (by
 dsimp only[u11,q_otherF]at hG ⊢
 have zc:=Hk.mk (qaa @jiH @jgA)
 obtain⟨hi,hC,hl⟩:=hG
 have hwp:=jao L i
 have hlen:∀X:List CD,(List.take (jaa L i) (List.drop i X)).length≤4611686018427387904:=fun X=>by
  rw[List.length_take]
  omega
 repeat' first|exact hlen _|refine tU ?_|refine qaa ?_ ?_|(refine tI ?_;intro hyp)|intro hyp0|exact tZ|omega
 exact qab [0,1,2] [] rfl (by simp only[jaj];exact tF))
theorem jBE {i bh kk:Nat}{q:CD}(hb:bh≤i) (hq:CWf q):ja3 [(i:Int)-bh,(kk:Int),q.fg,q.bg,q.attrs,q.link]=jar ([i-bh,kk]++penN q.pen):=by
 rw[←jev]
 have h1:=hq.fg
 have h2:=hq.bg
 have h3:=hq.attrs
 have h4:=hq.link
 congr 1
 simp only[penN,CD.pen,List.cons_append,List.nil_append,List.map_cons,List.map_nil,Int.ofNat_eq_natCast,List.cons.injEq,and_true]
 (repeat' apply qaa)<;>first|rfl|omega|trivial
abbrev jxb:List AK:=[.sl .cell,.agg [.any,.any,.sl .cell,.any,.any,.any,.any,.any,.sl .str]]
abbrev q_mruns (C:List CD) (k r:Int) (L:List CD) (x y:Int) (hd:Bool) (mo:Int) (ti:ByteArray) (l:List ByteArray):QA:=([.vec .cell C,.agg [.int .i64 k,.int .i64 r,.vec .cell L,.int .i64 x,.int .i64 y,.bool hd,.int .u8 mo,.str ti,.vec .str l]],C.length=L.length∧L.length≤1920∧(∀q∈L,CWf q)∧(∀q∈L,0≤q.rune)∧(∀i,i<L.length→i+jaa L i≤L.length),.ret (.vec (.int .u8) (jbU C L)))
def sp_mruns:=spQ (u10 q_mruns)
theorem jpp:W10 (hA sp_mruns) q_mruns:=w10 (aA rfl)
theorem jxc:Fre 179 sp_mruns:=ofT (u10 q_mruns) fun⟨C,k,r,L,x,y,hd,mo,ti,l⟩ hG=>tfi (.m jcu jqy (.m jeu juH (.t [.sl (.int .i64)] jdK jo7 (.t jqn jdk jqo (.t [.any] jdb jnH .nil))))) 0 jfz (by
 dsimp only[u10,q_mruns]at hG ⊢
 have zc:=Hk.mk (qaa @jiH (qaa @jmL (qaa @jh9 (qaa @jho @jft))))
 obtain⟨hC,hl,hwf,hru,hwd⟩:=hG
 obtain⟨oth,hoth⟩:∃o,o=jaj C L:=⟨_,rfl⟩
 have heq:=jpe C L
 rw[←hoth]at heq
 rw[heq]
 have hw5:∀i,jaj C L i=oth i:=fun i=>by rw[hoth]
 repeat' first|refine tU ?_|refine qaa ?_ ?_|(refine tI ?_;intro hyp)|intro hyp0|exact tZ|omega
 refine T.loop (fun q:Nat×Nat×Nat×List Int=>⟨[(2,.ptr 0 0 0),(3,.ptr 1 0 0),(5,.slice 3 0 1 q.2.2.2.length q.2.2.2.length),(6,.int .i64 q.2.2.1),(7,.int .i64 q.2.1),(8,.ptr 2 0 0),(9,.fn 199 [.ptr 0 0 0,.ptr 2 0 0,.ptr 1 0 0]),(10,.int .i64 q.1)],[.box [.vec .cell C],.box [.int .i64 k,.int .i64 r,.vec .cell L,.int .i64 x,.int .i64 y,.bool hd,.int .u8 mo,.str ti,.vec .str l],.box [.fn 198 [.ptr 1 0 0]],.seq (.int .u8) q.2.2.2]⟩) (fun q=>Outn L oth q.1 q.2.1 q.2.2.1 q.2.2.2) (fun q=>L.length-q.1) (0,0,0,[]) ⟨⟨Nat.le_refl _,Nat.zero_le _⟩,rfl,by simp⟩ (qab [0,1,2,99] [] rfl (by simp only[PB,SAM,seval,rdB,Hk.out zc];first|done|simp[crs,crsL,jaM])) (fun⟨i,bh,nn,bs⟩ hout=>?_)
 dsimp only at hout ⊢
 have hle:=hout.le
 have hsm:=hout.small hwf (by omega)
 by_cases hil:i<L.length
 ·have hwi:=hwd i hil
  have hwp:=jao L i
  cases ho:oth i
  ·have hsk:=hout.skip hil ho hwi
   have hw:=ho
   repeat' first|refine tU ?_|refine qaa ?_ ?_|(refine tI ?_;intro hyp)|intro hyp0|exact tZ|omega
   exact⟨(i+jaa L i,bh,nn,bs),hsk,by simp only;omega,qab [0,1,2,3] [] rfl (by exact tF)⟩
  ·have hw:=ho
   have hcw:=hwf _ (jbp hil)
   have hcg:=jce hil
   repeat' first|refine tU ?_|refine qaa ?_ ?_|(refine tI ?_;intro hyp)|intro hyp0|exact tZ|omega
   refine T.loop (fun q:Nat×Nat×List Int=>⟨[(2,.ptr 0 0 0),(3,.ptr 1 0 0),(5,.slice 3 0 1 bs.length bs.length),(6,.int .i64 nn),(7,.int .i64 bh),(8,.ptr 2 0 0),(9,.fn 199 [.ptr 0 0 0,.ptr 2 0 0,.ptr 1 0 0]),(10,.int .i64 q.1),(11,.ptr 4 0 0),(12,.int .i64 i),(13,.int .i64 q.2.1),(14,.slice 5 0 1 q.2.2.length q.2.2.length)],[.box [.vec .cell C],.box [.int .i64 k,.int .i64 r,.vec .cell L,.int .i64 x,.int .i64 y,.bool hd,.int .u8 mo,.str ti,.vec .str l],.box [.fn 198 [.ptr 1 0 0]],.seq (.int .u8) bs,.box [.int .u32 (L.getD i default).fg,.int .u32 (L.getD i default).bg,.int .u8 (L.getD i default).attrs,.int .u16 (L.getD i default).link],.seq (.int .u8) q.2.2]⟩) (fun q=>Inn L (cAt L i).pen oth i q.1 q.2.1 q.2.2) (fun q=>L.length-q.1) (i,0,[]) (Inn.start (by omega)) (qab [0,1,2,3,4,99] [] rfl (by simp only[PB,SAM,seval,rdB,Hk.out zc];simp[crs,crsL,jaM,CD.pen])) (fun⟨j,kk,rb⟩ hin=>?_)
   dsimp only at hin ⊢
   have hle2:=hin.le
   have hsm2:=hin.small hwf (by omega)
   have hend:¬(j<L.length∧oth j=true∧(cAt L j).pen=(cAt L i).pen)→i<j∧Outn L oth j j (nn+1) (bs++jar ([i-bh,kk]++penN (cAt L i).pen)++rb):=fun h=>⟨hin.far hil ho h,hout.go hil ho hin h⟩
   have hv6:=jBE (kk:=kk) hle.1 hcw
   have hvl6:=jel [(i:Int)-bh,(kk:Int),(L.getD i default).fg,(L.getD i default).bg,(L.getD i default).attrs,(L.getD i default).link] (fun u hu=>by
    have h1:=hcw.fg
    have h2:=hcw.bg
    have h3:=hcw.attrs
    have h4:=hcw.link
    simp only[HB,ne_eq,reduceCtorEq]at hu
    omega)
   simp only[List.length_cons,List.length_nil]at hvl6
   have hcf:=hcw.fg
   have hcb:=hcw.bg
   have hca:=hcw.attrs
   have hclk:=hcw.link
   by_cases hjl:j<L.length
   ·have hwj:=hwd j hjl
    have hwpj:=jao L j
    have hrj:=hru _ (jbp hjl)
    have hrw:=(hwf _ (jbp hjl)).rune
    have hcj:=jce hjl
    have hw2:IntKind.u64.wrap (L.getD j default).rune=(L.getD j default).rune:=jhd (by omega)
    have h10:=jaO (L.getD j default).rune.toNat (by omega)
    cases ho2:oth j
    ·have hw:=ho2
     have hE:=hend (by rw[ho2];simp)
     rw[hcg]at hE
     repeat' first|refine tU ?_|refine qaa ?_ ?_|(refine tI ?_;intro hyp)|intro hyp0|exact tZ|omega
     exact⟨(j,j,nn+1,_),hE.2,by simp only;have:=hE.1;omega,qab [0,1,2,9] [] rfl (by rw[hv6];exact tF)⟩
    ·have hw:=ho2
     repeat' first|refine tU ?_|refine qaa ?_ ?_|(refine tI ?_;intro hyp)|intro hyp0|exact tZ|omega
     ·have hgo:=hin.go hjl ho2 (by rw[hcj,hcg];exact hyp) hwj
      rw[hcj]at hgo
      exact⟨(j+jaa L j,kk+1,_),hgo,by simp only;omega,qab [0,1,2,3,4,7] [] rfl (by exact tF)⟩
     ·have hE:=hend (fun h=>hyp (by rw[←hcj,←hcg];exact h.2.2))
      rw[hcg]at hE
      exact⟨(j,j,nn+1,_),hE.2,by simp only;have:=hE.1;omega,qab [0,1,2,9] [] rfl (by rw[hv6];exact tF)⟩
   ·have hE:=hend (fun h=>hjl h.1)
    rw[hcg]at hE
    repeat' first|refine tU ?_|refine qaa ?_ ?_|(refine tI ?_;intro hyp)|intro hyp0|exact tZ|omega
    exact⟨(j,j,nn+1,_),hE.2,by simp only;have:=hE.1;omega,qab [0,1,2,9] [] rfl (by rw[hv6];exact tF)⟩
 ·obtain⟨e1,e2⟩:=hout.done (by omega)
  rw[←e1,←e2]
  have hw:ja3 [(nn:Int)]=varN nn:=by simp only[ja3,List.flatMap_cons,List.flatMap_nil,List.append_nil,qac]
  have h10:=jaO nn (by omega)
  repeat' first|refine tU ?_|refine qaa ?_ ?_|(refine tI ?_;intro hyp)|intro hyp0|exact tZ|omega
  ·rw[if_pos (show nn=0 by omega)]
   exact qab [99] [] rfl (by simp only[PB,SAM,seval,rdB,Hk.out zc];first|done|simp[crs,crsL,jaM])
  ·rw[if_neg (show ¬nn=0 by omega)]
   refine qab [6] [] rfl ?_
   exact tF)
end
end
end Go.Proofs.YtienkkicehmchaaGreatDoor
