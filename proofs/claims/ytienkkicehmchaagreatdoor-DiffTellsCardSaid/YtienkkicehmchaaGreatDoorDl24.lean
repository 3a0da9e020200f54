/- Texts of this claim, merged by a program of this claim: FGrid2. -/
import Derived.Test.YtienkkicehmchaaGreatDoorDl14
import Derived.Test.YtienkkicehmchaaGreatDoorDl18
import Derived.Test.YtienkkicehmchaaGreatDoorDl6
namespace Go.Proofs.YtienkkicehmchaaGreatDoor
open And renaming intro→qaa
open Cos renaming intro→qab
noncomputable section
set_option linter.unusedVariables false
set_option linter.unusedSimpArgs false
section
open Go.RowKit
set_option maxRecDepth 100000
set_option maxHeartbeats 4000000
def selC (c1 c2:Con):Con:=fun ARGS H=>if (jc6 ARGS).isEmpty=true then c2 ARGS H else c1 ARGS H
theorem jw6 (c1 c2:Con) (ARGS:List CV) (H:KH):selC c1 c2 ARGS H=if (jc6 ARGS).isEmpty=true then c2 ARGS H else c1 ARGS H:=rfl
theorem jqF {P:Program}{E:Nat→Option (List CV)}{F:FuncId}{c1 c2:Con}(h1:jjT P E F c1) (h2:jjT P E F c2):jjT P E F (selC c1 c2):=fun ARGS H G r H' hc hG=>by
 unfold selC at hc
 split at hc
 ·exact h2 ARGS H G r H' hc hG
 ·exact h1 ARGS H G r H' hc hG
abbrev jw7:List AK:=[.agg [.any,.any,.sl .cell],.any]
abbrev q_gown (k r:Int) (L:List CD) (p:PD):QA:=([.agg [.int .i64 k,.int .i64 r,.vec .cell L],penV p],jbo k r L=true∧penB p=true∧CWs L∧L.length≤1000000,.ret (.tup [.agg [.int .i64 k,.int .i64 r,.vec .cell L],.bool true]))
def sp_gown:=spQ (u4 q_gown)
theorem jqG:W4 (hA sp_gown) q_gown:=w4 (aA rfl)
theorem jw8:Fre 205 sp_gown:=ofT (u4 q_gown) fun⟨k,r,L,p⟩ hG=>tfi (.f jsd jg3 jse (.f [.any] jgj jwC (.t [.sl .cell] jaT jid .nil))) 0 jkm (by
 dsimp only[u4,q_gown]at hG ⊢
 have zc:=Hk.mk (qaa @jkr (qaa @jqc @jd1))
 obtain⟨hw,hw2,hc,hl⟩:=hG
 repeat' first|exact hc|refine tU ?_|refine qab [3] [] rfl ?_|refine qaa ?_ ?_|(refine tI ?_;intro hyp)|intro hyp0|exact tZ|omega)
theorem jmR {L:List CD}{k r t b:Nat}{p:PD}(hL:L.length=k*r):(jb6 (jak L k r) t b 0 p).flatten=L:=by
 have e:jb6 (jak L k r) t b 0 p=jak L k r:=by
  unfold jb6
  rw[jba]
  unfold jak
  refine List.map_congr_left fun y hy=>?_
  have hy:=List.mem_range.1 hy
  have h0:mAt ((List.range r).map (jas L k)) y=jas L k y:=jcE hy
  unfold scrG
  split
  ·split
   ·rw[Int.add_zero,Int.toNat_natCast,h0]
   ·omega
  ·exact h0
 rw[e,jdI hL]
abbrev jqH:List AK:=[.agg [.any,.any,.sl .cell],.any,.any,.any,.any]
abbrev q_gscroll (k r:Int) (L:List CD) (t b m:Int) (p:PD):QA:=([.agg [.int .i64 k,.int .i64 r,.vec .cell L],.int .i64 t,.int .i64 b,.int .i64 m,penV p],jbo k r L=true∧penB p=true∧CWs L∧(0≤t∧t≤b∧b<r)∧(-1000000≤m∧m≤1000000),.ret (.agg [.int .i64 k,.int .i64 r,.vec .cell (jb6 (jak L k.toNat r.toNat) t.toNat b.toNat m p).flatten]))
def sp_gscroll:=spQ (u7 q_gscroll)
theorem jlI:W7 (hA sp_gscroll) q_gscroll:=w7 (aA rfl)
theorem jqI:Fre 196 sp_gscroll:=ofT (u7 q_gscroll) fun⟨k,r,L,t,b,m,p⟩ hG=>tfi (.t jw7 jkm jw8 (.cons (jbt je6) (jqF (MutF.soundM juF) (Alias.soundA (ks:=jsb) jsc)) (.f [.any] jdi ji1 .nil))) 0 jgo (by
 dsimp only[u7,q_gscroll]at hG ⊢
 have zc:=Hk.mk (qaa @jqG (qaa @jmp (qaa @jkq (qaa @jw6 @jeA))))
 obtain⟨hg,hp,hc,ht,hm⟩:=hG
 have hg2:=hg
 simp only[jbo,HB,ne_eq,reduceCtorEq]at hg2
 have hf:=jbA.1 hg2.1.1
 obtain⟨k,rfl⟩:∃n:Nat,k=n:=⟨k.toNat,by omega⟩
 obtain⟨r,rfl⟩:∃n:Nat,r=n:=⟨r.toNat,by omega⟩
 obtain⟨t,rfl⟩:∃n:Nat,t=n:=⟨t.toNat,by omega⟩
 obtain⟨b,rfl⟩:∃n:Nat,b=n:=⟨b.toNat,by omega⟩
 have hln:L.length=k*r:=by
  have:(L.length:Int)=((k*r:Nat):Int):=by rw[hg2.1.2];simp
  omega
 have hkr:k*r≤1920:=Nat.mul_le_mul (show k≤80 by omega) (show r≤24 by omega)
 obtain⟨c,hcd⟩:∃c,c=max (-((b:Int)-t+1)) (min m ((b:Int)-t+1)):=⟨_,rfl⟩
 have hw:=hcd.symm
 simp only[Int.toNat_natCast]
 rw[←jlx (by omega) hcd]
 have hfl:(jb6 (jak L k r) t b c p).flatten.length=L.length:=by
  rw[←jmv (p:=p) hln (by omega) (by omega),jmu hln (by omega) (by omega)]
 repeat' first|exact hc|refine tU ?_|refine qaa ?_ ?_|(refine tI ?_;intro hyp)|intro hyp0|exact tZ|omega
 ·have:c=0:=by omega
  rw[this,jmR hln]
  exact qab [3] [] rfl (by exact tF)
 refine T.loop (fun y:Nat=>⟨[(1,.int .i64 t),(2,.int .i64 b),(3,.int .i64 c),(5,.ptr 0 0 0),(9,.ptr 1 0 0),(10,.ptr 2 0 0),(11,.ptr 4 0 0),(14,.int .i64 y)],[.box [.int .i64 k,.int .i64 r,.vec .cell L],.box [.int .u32 p.fg,.int .u32 p.bg,.int .u8 p.attrs,.int .u16 p.link],.box [.int .i64 0,.int .i64 0,.nils],.seq .cell (jc7 L k r t b c p y),.box [.int .i64 k,.int .i64 r,.slice 3 0 6 L.length L.length]]⟩) (fun y=>t≤y∧y≤b+1) (fun y=>b+1-y) t ⟨by omega,by omega⟩ (qab [0,1,2,3,4] [] rfl (by rw[jn0 (by omega)];exact tF)) (fun y ⟨hty,hyb⟩=>?_)
 have hsl:=jmu (p:=p) (m:=c) (top:=t) hln (show b<r by omega) (show y≤r by omega)
 by_cases hyb2:y≤b
 ·have hrow:(y+1)*k≤L.length:=by
   rw[hln,Nat.mul_comm k r]
   exact Nat.mul_le_mul_right k (by omega)
  have hra:=(jaZ hln).at_ (show y<r by omega)
  by_cases hin:(t:Int)≤y+c∧(y:Int)+c≤b
  ·obtain⟨z,hz⟩:∃z:Nat,(y:Int)+c=z:=⟨((y:Int)+c).toNat,by omega⟩
   have hsg:jas L k z=scrG (jak L k r) t b c p y:=by
    unfold scrG
    rw[if_pos (by omega),if_pos hin,hz,Int.toNat_natCast,jcE (by omega)]
   have hst:=jku (m:=c) hln (show b<r by omega) (show y<r by omega) _ hsg
   have hzr:(z+1)*k≤L.length:=by
    rw[hln,Nat.mul_comm k r]
    exact Nat.mul_le_mul_right k (by omega)
   have hzl:=jaQ hln (show z<r by omega)
   have hw2:=hz
   have hyk:y*k+k≤L.length:=by rw[←Nat.succ_mul];exact hrow
   have hw3:List.take (min (jas L k z).length k) (jas L k z)=jas L k z:=List.take_of_length_le (by omega)
   have hw4:min (jas L k z).length k=k:=by omega
   rw[hzl]at hst
   repeat' first|exact hc|(rw[hsl];exact hyk)|refine tU ?_|refine qaa ?_ ?_|(refine tI ?_;intro hyp)|intro hyp0|exact tZ|omega
   exact⟨y+1,⟨by omega,by omega⟩,by omega,qab [0,1,2,3,4] [] rfl (by rw[hst];exact tF)⟩
  ·have hyk:y*k+k≤L.length:=by rw[←Nat.succ_mul];exact hrow
   have hsg:List.replicate k (jcv p)=scrG (jak L k r) t b c p y:=by
    unfold scrG
    rw[if_pos (by omega),if_neg hin,hra.1]
   have hst:=jku (m:=c) hln (show b<r by omega) (show y<r by omega) _ hsg
   rw[List.length_replicate]at hst
   repeat' first|exact hc|(rw[hsl];exact hyk)|refine tU ?_|refine qaa ?_ ?_|(refine tI ?_;intro hyp)|intro hyp0|exact tZ|omega
   refine T.loop (fun x:Nat=>⟨[(1,.int .i64 t),(2,.int .i64 b),(3,.int .i64 c),(5,.ptr 0 0 0),(9,.ptr 1 0 0),(10,.ptr 2 0 0),(11,.ptr 4 0 0),(14,.int .i64 y),(15,.slice 3 (y*k) 6 k k),(82,.int .i64 k),(83,.int .i64 x)],[.box [.int .i64 k,.int .i64 r,.vec .cell L],.box [.int .u32 p.fg,.int .u32 p.bg,.int .u8 p.attrs,.int .u16 p.link],.box [.int .i64 0,.int .i64 0,.nils],.seq .cell (jly (jc7 L k r t b c p y) y k (jcv p) x),.box [.int .i64 k,.int .i64 r,.slice 3 0 6 L.length L.length]]⟩) (fun x=>x≤k) (fun x=>k-x) 0 (by omega) (qab [0,1,2,3,4] [] rfl (by rw[jqu];exact tF)) (fun x hx=>?_)
   by_cases hxk:x<k
   ·have hput:=jsj (S:=jc7 L k r t b c p y) (b:=jcv p) (show y*k+x<(jc7 L k r t b c p y).length by omega)
    have hrl:=jsi (S:=jc7 L k r t b c p y) (y:=y) (k:=k) (b:=jcv p) (x:=x) (by omega)
    have hw3:({ fg:=p.fg,bg:=p.bg,attrs:=p.attrs,link:=p.link }:PD)=p:=rfl
    repeat' first|exact hc|(rw[hsl];exact hyk)|(rw[hrl,hsl];omega)|refine tU ?_|refine qaa ?_ ?_|(refine tI ?_;intro hyp)|intro hyp0|exact tZ|omega
    exact⟨x+1,by omega,by omega,qab [0,1,2,3,4] [] rfl (by rw[hput];exact tF)⟩
   ·obtain rfl:x=k:=by omega
    have hrt:jly (jc7 L x r t b c p y) y x (jcv p) x=jc7 L x r t b c p (y+1):=hst
    repeat' first|exact hc|refine tU ?_|refine qaa ?_ ?_|(refine tI ?_;intro hyp)|intro hyp0|exact tZ|omega
    exact⟨y+1,⟨by omega,by omega⟩,by omega,qab [0,1,2,3,4] [] rfl (by rw[hrt];exact tF)⟩
 ·obtain rfl:y=b+1:=by omega
  rw[jmv hln (by omega) (by omega)]
  repeat' first|exact hc|refine tU ?_|refine qab [3] [] rfl ?_|refine qaa ?_ ?_|(refine tI ?_;intro hyp)|intro hyp0|exact tZ|omega)
end
end
end Go.Proofs.YtienkkicehmchaaGreatDoor
