/- Texts of this claim, merged by a program of this claim: FGrid2. -/
import Derived.Test.YtcfkfgkndncanaaGreatDoorMa19
import Derived.Test.YtcfkfgkndncanaaGreatDoorMa22
namespace Go.Proofs.YtcfkfgkndncanaaGreatDoor
set_option linter.unusedVariables false
set_option linter.unusedSimpArgs false
section
open Go.RowKit
set_option maxRecDepth 100000
set_option maxHeartbeats 4000000
def selC (c1 c2:Con):Con:=fun ARGS H=>if (jdH ARGS).isEmpty=true then c2 ARGS H else c1 ARGS H
theorem jd0 (c1 c2:Con) (ARGS:List CV) (H:KH):selC c1 c2 ARGS H=if (jdH ARGS).isEmpty=true then c2 ARGS H else c1 ARGS H:=rfl
theorem jtv {P:Program}{E:Nat→Option (List CV)}{F:FuncId}{c1 c2:Con}(h1:jfw P E F c1) (h2:jfw P E F c2):jfw P E F (selC c1 c2):=fun ARGS H G r H' hc hG=>by
 unfold selC at hc
 split at hc
 ·exact h2 ARGS H G r H' hc hG
 ·exact h1 ARGS H G r H' hc hG
abbrev jv4 (k:Int) (r:Int) (L:List CD) (p:PD):List CV:=[.agg [.int .i64 k,.int .i64 r,.vec .cell L],penV p]
abbrev jv5 (k:Int) (r:Int) (L:List CD) (p:PD):Prop×Res:=(jcI k r L=true∧penB p=true∧CWs L∧L.length≤1000000,.ret (.tup [.agg [.int .i64 k,.int .i64 r,.vec .cell L],.bool true]))
noncomputable def sp_gown:Spec:=spOf (α:=Int×Int×(List CD)×PD) (fun⟨k,r,L,p⟩=>jv4 k r L p) fun⟨k,r,L,p⟩=>jv5 k r L p
theorem jb9 (k:Int) (r:Int) (L:List CD) (p:PD):sp_gown (jv4 k r L p)=some (jv5 k r L p):=jaq _ injS (k,r,L,p)
theorem jz5:Fresh Tryz.prog E0 125 sp_gown:=Fresh.of fun⟨k,r,L,p⟩ hG=>TF.intro (V:=(VV [(56,conF [.agg [.any,.any,.sl .cell]] sp_gmay),(130,conF [.any] sp_gpen),(24,conT [.sl .cell] sp_clone)] (.cons (jaa jgG) (Fresh.soundF jvJ) (.cons (jaa jfH) (Fresh.soundF jzL) (.cons (jaa jbF) (Fresh.soundT jh1) GOk.nil))) 20 0)) jiO rfl rfl (by
 dsimp only[jv4,jv5]at hG ⊢
 obtain⟨hw,hw2,hc,hl⟩:=hG
 repeat' first|exact hc|simp only[SA,seval,rdB,jef,jth,jaj]|simp only[hw]|simp only[hw2]|refine tT ?_|refine Cos.intro [3] [] rfl ?_|refine And.intro ?_ ?_|exact tC|(refine tI ?_;intro hyp)|intro hyp0|omega)
theorem jpB {L:List CD}{k r t b:Nat}{p:PD}(hL:L.length=k*r):(jdz (jbv L k r) t b 0 p).flatten=L:=by
 have e:jdz (jbv L k r) t b 0 p=jbv L k r:=by
  unfold jdz
  rw[jcC]
  unfold jbv
  refine List.map_congr_left fun y hy=>?_
  have hy:=List.mem_range.1 hy
  have h0:mAt ((List.range r).map (jbo L k)) y=jbo L k y:=jfN hy
  unfold scrG
  split
  ·split
   ·rw[Int.add_zero,Int.toNat_natCast,h0]
   ·omega
  ·exact h0
 rw[e,jiQ hL]
abbrev jlp (k:Int) (r:Int) (L:List CD) (t:Int) (b:Int) (m:Int) (p:PD):List CV:=[.agg [.int .i64 k,.int .i64 r,.vec .cell L],.int .i64 t,.int .i64 b,.int .i64 m,penV p]
abbrev jlq (k:Int) (r:Int) (L:List CD) (t:Int) (b:Int) (m:Int) (p:PD):Prop×Res:=(jcI k r L=true∧penB p=true∧CWs L∧(0≤t∧t≤b∧b<r)∧(-1000000≤m∧m≤1000000),.ret (.agg [.int .i64 k,.int .i64 r,.vec .cell (jdz (jbv L k.toNat r.toNat) t.toNat b.toNat m p).flatten]))
noncomputable def sp_gscroll:Spec:=spOf (α:=Int×Int×(List CD)×Int×Int×Int×PD) (fun⟨k,r,L,t,b,m,p⟩=>jlp k r L t b m p) fun⟨k,r,L,t,b,m,p⟩=>jlq k r L t b m p
theorem jia (k:Int) (r:Int) (L:List CD) (t:Int) (b:Int) (m:Int) (p:PD):sp_gscroll (jlp k r L t b m p)=some (jlq k r L t b m p):=jaq _ injS (k,r,L,t,b,m,p)
theorem jtw:Fresh Tryz.prog E0 103 sp_gscroll:=Fresh.of fun⟨k,r,L,t,b,m,p⟩ hG=>TF.intro (V:=(VV [(125,conT [.agg [.any,.any,.sl .cell],.any] sp_gown),(98,selC (conM msp_growM) (conA [.agg [.any,.any,.sl .cell],.any] sp_grow)),(126,conF [.any] sp_cblank)] (.cons (jaa jiO) (Fresh.soundT jz5) (.cons (jaa jfk) (jtv (MutF.soundM jx4) (Alias.soundA jvG)) (.cons (jaa jeN) (Fresh.soundF jpr) GOk.nil))) 93 0)) jfM rfl rfl (by
 dsimp only[jlp,jlq]at hG ⊢
 obtain⟨hg,hp,hc,ht,hm⟩:=hG
 have hg2:=hg
 simp only[jcI,HB,ne_eq,reduceCtorEq]at hg2
 have hf:=jh7.1 hg2.1.1
 obtain⟨k,rfl⟩:∃n:Nat,k=n:=⟨k.toNat,by omega⟩
 obtain⟨r,rfl⟩:∃n:Nat,r=n:=⟨r.toNat,by omega⟩
 obtain⟨t,rfl⟩:∃n:Nat,t=n:=⟨t.toNat,by omega⟩
 obtain⟨b,rfl⟩:∃n:Nat,b=n:=⟨b.toNat,by omega⟩
 have hln:L.length=k*r:=by
  have:(L.length:Int)=((k*r:Nat):Int):=by rw[hg2.1.2];simp
  omega
 have hkr:k*r≤1920:=Nat.mul_le_mul (show k≤80 by omega) (show r≤24 by omega)
 obtain⟨c,hcd⟩:∃c,c=max (-((b:Int)-t+1)) (min m ((b:Int)-t+1)):=⟨_,rfl⟩
 have hw:=hcd.symm
 simp only[Int.toNat_natCast]
 rw[←jnR (by omega) hcd]
 have hfl:(jdz (jbv L k r) t b c p).flatten.length=L.length:=by
  rw[←jpy (p:=p) hln (by omega) (by omega),jpx hln (by omega) (by omega)]
 repeat' first|exact hc|simp only[SA,MB,seval,rdB,jb9,jbM,jbL,jd0,jbm]|simp only[hw]|simp only[hw2]|simp only[hw3]|simp only[hw4]|refine tT ?_|refine And.intro ?_ ?_|exact tC|(refine tI ?_;intro hyp)|intro hyp0|omega
 ·have:c=0:=by omega
  rw[this,jpB hln]
  exact Cos.intro [3] [] rfl (by (simp only[SA,MB,seval,rdB,jb9,jbM,jbL,jd0,jbm]<;>exact tE))
 refine T.loop (fun y:Nat=>⟨[(1,.int .i64 t),(2,.int .i64 b),(3,.int .i64 c),(5,.ptr 0 0 0),(9,.ptr 1 0 0),(10,.ptr 2 0 0),(11,.ptr 4 0 0),(14,.int .i64 y)],[.box [.int .i64 k,.int .i64 r,.vec .cell L],.box [.int .u32 p.fg,.int .u32 p.bg,.int .u8 p.attrs,.int .u16 p.link],.box [.int .i64 0,.int .i64 0,.nils],.seq .cell (jeA L k r t b c p y),.box [.int .i64 k,.int .i64 r,.slice 3 0 6 L.length L.length]]⟩) (fun y=>t≤y∧y≤b+1) (fun y=>b+1-y) t ⟨by omega,by omega⟩ (Cos.intro [0,1,2,3,4] [] rfl (by rw[jqY (by omega)];(simp only[SA,MB,seval,rdB,jb9,jbM,jbL,jd0,jbm]<;>exact tE))) (fun y ⟨hty,hyb⟩=>?_)
 have hsl:=jpx (p:=p) (m:=c) (top:=t) hln (show b<r by omega) (show y≤r by omega)
 by_cases hyb2:y≤b
 ·have hrow:(y+1)*k≤L.length:=by
   rw[hln,Nat.mul_comm k r]
   exact Nat.mul_le_mul_right k (by omega)
  have hra:=(jdy hln).at_ (show y<r by omega)
  by_cases hin:(t:Int)≤y+c∧(y:Int)+c≤b
  ·obtain⟨z,hz⟩:∃z:Nat,(y:Int)+c=z:=⟨((y:Int)+c).toNat,by omega⟩
   have hsg:jbo L k z=scrG (jbv L k r) t b c p y:=by
    unfold scrG
    rw[if_pos (by omega),if_pos hin,hz,Int.toNat_natCast,jfN (by omega)]
   have hst:=jmJ (m:=c) hln (show b<r by omega) (show y<r by omega) _ hsg
   have hzr:(z+1)*k≤L.length:=by
    rw[hln,Nat.mul_comm k r]
    exact Nat.mul_le_mul_right k (by omega)
   have hzl:=jdM hln (show z<r by omega)
   have hw2:=hz
   have hyk:y*k+k≤L.length:=by rw[←Nat.succ_mul];exact hrow
   have hw3:List.take (min (jbo L k z).length k) (jbo L k z)=jbo L k z:=List.take_of_length_le (by omega)
   have hw4:min (jbo L k z).length k=k:=by omega
   rw[hzl]at hst
   repeat' first|exact hc|(rw[hsl];exact hyk)|simp only[SA,MB,seval,rdB,jb9,jbM,jbL,jd0,jbm]|simp only[hw]|simp only[hw2]|simp only[hw3]|simp only[hw4]|refine tT ?_|refine And.intro ?_ ?_|exact tC|(refine tI ?_;intro hyp)|intro hyp0|omega
   exact⟨y+1,⟨by omega,by omega⟩,by omega,Cos.intro [0,1,2,3,4] [] rfl (by rw[hst];(simp only[SA,MB,seval,rdB,jb9,jbM,jbL,jd0,jbm]<;>exact tE))⟩
  ·have hyk:y*k+k≤L.length:=by rw[←Nat.succ_mul];exact hrow
   have hsg:List.replicate k (jer p)=scrG (jbv L k r) t b c p y:=by
    unfold scrG
    rw[if_pos (by omega),if_neg hin,hra.1]
   have hst:=jmJ (m:=c) hln (show b<r by omega) (show y<r by omega) _ hsg
   rw[List.length_replicate]at hst
   repeat' first|exact hc|(rw[hsl];exact hyk)|simp only[SA,MB,seval,rdB,jb9,jbM,jbL,jd0,jbm]|simp only[hw]|simp only[hw2]|simp only[hw3]|simp only[hw4]|refine tT ?_|refine And.intro ?_ ?_|exact tC|(refine tI ?_;intro hyp)|intro hyp0|omega
   refine T.loop (fun x:Nat=>⟨[(1,.int .i64 t),(2,.int .i64 b),(3,.int .i64 c),(5,.ptr 0 0 0),(9,.ptr 1 0 0),(10,.ptr 2 0 0),(11,.ptr 4 0 0),(14,.int .i64 y),(15,.slice 3 (y*k) 6 k k),(82,.int .i64 k),(83,.int .i64 x)],[.box [.int .i64 k,.int .i64 r,.vec .cell L],.box [.int .u32 p.fg,.int .u32 p.bg,.int .u8 p.attrs,.int .u16 p.link],.box [.int .i64 0,.int .i64 0,.nils],.seq .cell (jnS (jeA L k r t b c p y) y k (jer p) x),.box [.int .i64 k,.int .i64 r,.slice 3 0 6 L.length L.length]]⟩) (fun x=>x≤k) (fun x=>k-x) 0 (by omega) (Cos.intro [0,1,2,3,4] [] rfl (by rw[jtt];(simp only[SA,MB,seval,rdB,jb9,jbM,jbL,jd0,jbm]<;>exact tE))) (fun x hx=>?_)
   by_cases hxk:x<k
   ·have hput:=jvX (S:=jeA L k r t b c p y) (b:=jer p) (show y*k+x<(jeA L k r t b c p y).length by omega)
    have hrl:=jvW (S:=jeA L k r t b c p y) (y:=y) (k:=k) (b:=jer p) (x:=x) (by omega)
    have hw3:({ fg:=p.fg,bg:=p.bg,attrs:=p.attrs,link:=p.link }:PD)=p:=rfl
    repeat' first|exact hc|(rw[hsl];exact hyk)|(rw[hrl,hsl];omega)|simp only[SA,MB,seval,rdB,jb9,jbM,jbL,jd0,jbm]|simp only[hw]|simp only[hw2]|simp only[hw3]|simp only[hw4]|refine tT ?_|refine And.intro ?_ ?_|exact tC|(refine tI ?_;intro hyp)|intro hyp0|omega
    exact⟨x+1,by omega,by omega,Cos.intro [0,1,2,3,4] [] rfl (by rw[hput];(simp only[SA,MB,seval,rdB,jb9,jbM,jbL,jd0,jbm]<;>exact tE))⟩
   ·obtain rfl:x=k:=by omega
    have hrt:jnS (jeA L x r t b c p y) y x (jer p) x=jeA L x r t b c p (y+1):=hst
    repeat' first|exact hc|simp only[SA,MB,seval,rdB,jb9,jbM,jbL,jd0,jbm]|simp only[hw]|simp only[hw2]|simp only[hw3]|simp only[hw4]|refine tT ?_|refine And.intro ?_ ?_|exact tC|(refine tI ?_;intro hyp)|intro hyp0|omega
    exact⟨y+1,⟨by omega,by omega⟩,by omega,Cos.intro [0,1,2,3,4] [] rfl (by rw[hrt];(simp only[SA,MB,seval,rdB,jb9,jbM,jbL,jd0,jbm]<;>exact tE))⟩
 ·obtain rfl:y=b+1:=by omega
  rw[jpy hln (by omega) (by omega)]
  repeat' first|exact hc|simp only[SA,MB,seval,rdB,jb9,jbM,jbL,jd0,jbm]|simp only[hw]|simp only[hw2]|simp only[hw3]|simp only[hw4]|refine tT ?_|refine Cos.intro [3] [] rfl ?_|refine And.intro ?_ ?_|exact tC|(refine tI ?_;intro hyp)|intro hyp0|omega)
end
end Go.Proofs.YtcfkfgkndncanaaGreatDoor
