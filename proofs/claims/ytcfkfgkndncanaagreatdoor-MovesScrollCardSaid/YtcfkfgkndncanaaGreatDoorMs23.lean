/- Texts of this claim, merged by a program of this claim: FGrid2. -/
import Derived.Test.YtcfkfgkndncanaaGreatDoorMs19
import Derived.Test.YtcfkfgkndncanaaGreatDoorMs22
namespace Go.Proofs.YtcfkfgkndncanaaGreatDoor
set_option linter.unusedVariables false
set_option linter.unusedSimpArgs false
section
open Go.RowKit
set_option maxRecDepth 100000
set_option maxHeartbeats 4000000
def selC (c1 c2:Con):Con:=fun ARGS H=>if (jdI ARGS).isEmpty=true then c2 ARGS H else c1 ARGS H
theorem jb5 (c1 c2:Con) (ARGS:List CV) (H:KH):selC c1 c2 ARGS H=if (jdI ARGS).isEmpty=true then c2 ARGS H else c1 ARGS H:=rfl
theorem jmj {P:Program}{E:Nat→Option (List CV)}{F:FuncId}{c1 c2:Con}(h1:jg3 P E F c1) (h2:jg3 P E F c2):jg3 P E F (selC c1 c2):=fun ARGS H G r H' hc hG=>by
 unfold selC at hc
 split at hc
 ·exact h2 ARGS H G r H' hc hG
 ·exact h1 ARGS H G r H' hc hG
abbrev jwi (k:Int) (r:Int) (L:List CD) (p:PD):List CV:=[.agg [.int .i64 k,.int .i64 r,.vec .cell L],penV p]
abbrev jwj (k:Int) (r:Int) (L:List CD) (p:PD):Prop×Res:=(jbM k r L=true∧penB p=true∧CWs L∧L.length≤1000000,.ret (.tup [.agg [.int .i64 k,.int .i64 r,.vec .cell L],.bool true]))
noncomputable def sp_gown:Spec:=spOf (α:=Int×Int×(List CD)×PD) (fun⟨k,r,L,p⟩=>jwi k r L p) fun⟨k,r,L,p⟩=>jwj k r L p
theorem jbP (k:Int) (r:Int) (L:List CD) (p:PD):sp_gown (jwi k r L p)=some (jwj k r L p):=jak _ injS (k,r,L,p)
theorem jA3:Fresh Tryz.prog E0 125 sp_gown:=Fresh.of fun⟨k,r,L,p⟩ hG=>TF.intro (V:=(VV [(56,conF [.agg [.any,.any,.sl .cell]] sp_gmay),(130,conF [.any] sp_gpen),(24,conT [.sl .cell] sp_clone)] (.cons (jaa jgD) (Fresh.soundF jvQ) (.cons (jaa jfN) (Fresh.soundF jAK) (.cons (jaa ja7) (Fresh.soundT jgB) GOk.nil))) 20 0)) jiy rfl rfl (by
 dsimp only[jwi,jwj]at hG ⊢
 obtain⟨hw,hw2,hc,hl⟩:=hG
 repeat' first|exact hc|simp only[SA,seval,rdB,jej,jtg,jaf]|simp only[hw]|simp only[hw2]|refine tT ?_|refine Cos.intro [3] [] rfl ?_|refine And.intro ?_ ?_|exact tC|(refine tI ?_;intro hyp)|intro hyp0|omega)
theorem joY {L:List CD}{k r t b:Nat}{p:PD}(hL:L.length=k*r):(jdt (jam L k r) t b 0 p).flatten=L:=by
 have e:jdt (jam L k r) t b 0 p=jam L k r:=by
  unfold jdt
  rw[jbD]
  unfold jam
  refine List.map_congr_left fun y hy=>?_
  have hy:=List.mem_range.1 hy
  have h0:mAt ((List.range r).map (jaY L k)) y=jaY L k y:=jdD hy
  unfold scrG
  split
  ·split
   ·rw[Int.add_zero,Int.toNat_natCast,h0]
   ·omega
  ·exact h0
 rw[e,jds hL]
abbrev jkT (k:Int) (r:Int) (L:List CD) (t:Int) (b:Int) (m:Int) (p:PD):List CV:=[.agg [.int .i64 k,.int .i64 r,.vec .cell L],.int .i64 t,.int .i64 b,.int .i64 m,penV p]
abbrev jkU (k:Int) (r:Int) (L:List CD) (t:Int) (b:Int) (m:Int) (p:PD):Prop×Res:=(jbM k r L=true∧penB p=true∧CWs L∧(0≤t∧t≤b∧b<r)∧(-1000000≤m∧m≤1000000),.ret (.agg [.int .i64 k,.int .i64 r,.vec .cell (jdt (jam L k.toNat r.toNat) t.toNat b.toNat m p).flatten]))
noncomputable def sp_gscroll:Spec:=spOf (α:=Int×Int×(List CD)×Int×Int×Int×PD) (fun⟨k,r,L,t,b,m,p⟩=>jkT k r L t b m p) fun⟨k,r,L,t,b,m,p⟩=>jkU k r L t b m p
theorem jhW (k:Int) (r:Int) (L:List CD) (t:Int) (b:Int) (m:Int) (p:PD):sp_gscroll (jkT k r L t b m p)=some (jkU k r L t b m p):=jak _ injS (k,r,L,t,b,m,p)
theorem jtu:Fresh Tryz.prog E0 103 sp_gscroll:=Fresh.of fun⟨k,r,L,t,b,m,p⟩ hG=>TF.intro (V:=(VV [(125,conT [.agg [.any,.any,.sl .cell],.any] sp_gown),(98,selC (conM msp_growM) (conA [.agg [.any,.any,.sl .cell],.any] sp_grow)),(126,conF [.any] sp_cblank)] (.cons (jaa jiy) (Fresh.soundT jA3) (.cons (jaa jfm) (jmj (MutF.soundM jyD) (Alias.soundA jvN)) (.cons (jaa jdP) (Fresh.soundF jkA) GOk.nil))) 93 0)) jfP rfl rfl (by
 dsimp only[jkT,jkU]at hG ⊢
 obtain⟨hg,hp,hc,ht,hm⟩:=hG
 have hg2:=hg
 simp only[jbM,HB,ne_eq,reduceCtorEq]at hg2
 have hf:=jdh.1 hg2.1.1
 obtain⟨k,rfl⟩:∃n:Nat,k=n:=⟨k.toNat,by omega⟩
 obtain⟨r,rfl⟩:∃n:Nat,r=n:=⟨r.toNat,by omega⟩
 obtain⟨t,rfl⟩:∃n:Nat,t=n:=⟨t.toNat,by omega⟩
 obtain⟨b,rfl⟩:∃n:Nat,b=n:=⟨b.toNat,by omega⟩
 have hln:L.length=k*r:=by
  have:(L.length:Int)=((k*r:Nat):Int):=by rw[hg2.1.2];simp
  omega
 have hkr:k*r≤1920:=Nat.mul_le_mul (show k≤80 by omega) (show r≤24 by omega)
 obtain⟨c,hcd⟩:∃c,c=max (-((b:Int)-t+1)) (min m ((b:Int)-t+1)):=⟨_,rfl⟩
 have hw:=hcd.symm
 simp only[Int.toNat_natCast]
 rw[←jnx (by omega) hcd]
 have hfl:(jdt (jam L k r) t b c p).flatten.length=L.length:=by
  rw[←joT (p:=p) hln (by omega) (by omega),joS hln (by omega) (by omega)]
 repeat' first|exact hc|simp only[SA,MB,seval,rdB,jbP,jbu,jbt,jb5,jav]|simp only[hw]|simp only[hw2]|simp only[hw3]|simp only[hw4]|refine tT ?_|refine And.intro ?_ ?_|exact tC|(refine tI ?_;intro hyp)|intro hyp0|omega
 ·have:c=0:=by omega
  rw[this,joY hln]
  exact Cos.intro [3] [] rfl (by (simp only[SA,MB,seval,rdB,jbP,jbu,jbt,jb5,jav]<;>exact tE))
 refine T.loop (fun y:Nat=>⟨[(1,.int .i64 t),(2,.int .i64 b),(3,.int .i64 c),(5,.ptr 0 0 0),(9,.ptr 1 0 0),(10,.ptr 2 0 0),(11,.ptr 4 0 0),(14,.int .i64 y)],[.box [.int .i64 k,.int .i64 r,.vec .cell L],.box [.int .u32 p.fg,.int .u32 p.bg,.int .u8 p.attrs,.int .u16 p.link],.box [.int .i64 0,.int .i64 0,.nils],.seq .cell (jeH L k r t b c p y),.box [.int .i64 k,.int .i64 r,.slice 3 0 6 L.length L.length]]⟩) (fun y=>t≤y∧y≤b+1) (fun y=>b+1-y) t ⟨by omega,by omega⟩ (Cos.intro [0,1,2,3,4] [] rfl (by rw[jqx (by omega)];(simp only[SA,MB,seval,rdB,jbP,jbu,jbt,jb5,jav]<;>exact tE))) (fun y ⟨hty,hyb⟩=>?_)
 have hsl:=joS (p:=p) (m:=c) (top:=t) hln (show b<r by omega) (show y≤r by omega)
 by_cases hyb2:y≤b
 ·have hrow:(y+1)*k≤L.length:=by
   rw[hln,Nat.mul_comm k r]
   exact Nat.mul_le_mul_right k (by omega)
  have hra:=(jbk hln).at_ (show y<r by omega)
  by_cases hin:(t:Int)≤y+c∧(y:Int)+c≤b
  ·obtain⟨z,hz⟩:∃z:Nat,(y:Int)+c=z:=⟨((y:Int)+c).toNat,by omega⟩
   have hsg:jaY L k z=scrG (jam L k r) t b c p y:=by
    unfold scrG
    rw[if_pos (by omega),if_pos hin,hz,Int.toNat_natCast,jdD (by omega)]
   have hst:=jmg (m:=c) hln (show b<r by omega) (show y<r by omega) _ hsg
   have hzr:(z+1)*k≤L.length:=by
    rw[hln,Nat.mul_comm k r]
    exact Nat.mul_le_mul_right k (by omega)
   have hzl:=jcl hln (show z<r by omega)
   have hw2:=hz
   have hyk:y*k+k≤L.length:=by rw[←Nat.succ_mul];exact hrow
   have hw3:List.take (min (jaY L k z).length k) (jaY L k z)=jaY L k z:=List.take_of_length_le (by omega)
   have hw4:min (jaY L k z).length k=k:=by omega
   rw[hzl]at hst
   repeat' first|exact hc|(rw[hsl];exact hyk)|simp only[SA,MB,seval,rdB,jbP,jbu,jbt,jb5,jav]|simp only[hw]|simp only[hw2]|simp only[hw3]|simp only[hw4]|refine tT ?_|refine And.intro ?_ ?_|exact tC|(refine tI ?_;intro hyp)|intro hyp0|omega
   exact⟨y+1,⟨by omega,by omega⟩,by omega,Cos.intro [0,1,2,3,4] [] rfl (by rw[hst];(simp only[SA,MB,seval,rdB,jbP,jbu,jbt,jb5,jav]<;>exact tE))⟩
  ·have hyk:y*k+k≤L.length:=by rw[←Nat.succ_mul];exact hrow
   have hsg:List.replicate k (jeU p)=scrG (jam L k r) t b c p y:=by
    unfold scrG
    rw[if_pos (by omega),if_neg hin,hra.1]
   have hst:=jmg (m:=c) hln (show b<r by omega) (show y<r by omega) _ hsg
   rw[List.length_replicate]at hst
   repeat' first|exact hc|(rw[hsl];exact hyk)|simp only[SA,MB,seval,rdB,jbP,jbu,jbt,jb5,jav]|simp only[hw]|simp only[hw2]|simp only[hw3]|simp only[hw4]|refine tT ?_|refine And.intro ?_ ?_|exact tC|(refine tI ?_;intro hyp)|intro hyp0|omega
   refine T.loop (fun x:Nat=>⟨[(1,.int .i64 t),(2,.int .i64 b),(3,.int .i64 c),(5,.ptr 0 0 0),(9,.ptr 1 0 0),(10,.ptr 2 0 0),(11,.ptr 4 0 0),(14,.int .i64 y),(15,.slice 3 (y*k) 6 k k),(82,.int .i64 k),(83,.int .i64 x)],[.box [.int .i64 k,.int .i64 r,.vec .cell L],.box [.int .u32 p.fg,.int .u32 p.bg,.int .u8 p.attrs,.int .u16 p.link],.box [.int .i64 0,.int .i64 0,.nils],.seq .cell (jny (jeH L k r t b c p y) y k (jeU p) x),.box [.int .i64 k,.int .i64 r,.slice 3 0 6 L.length L.length]]⟩) (fun x=>x≤k) (fun x=>k-x) 0 (by omega) (Cos.intro [0,1,2,3,4] [] rfl (by rw[jtr];(simp only[SA,MB,seval,rdB,jbP,jbu,jbt,jb5,jav]<;>exact tE))) (fun x hx=>?_)
   by_cases hxk:x<k
   ·have hput:=jv8 (S:=jeH L k r t b c p y) (b:=jeU p) (show y*k+x<(jeH L k r t b c p y).length by omega)
    have hrl:=jv7 (S:=jeH L k r t b c p y) (y:=y) (k:=k) (b:=jeU p) (x:=x) (by omega)
    have hw3:({ fg:=p.fg,bg:=p.bg,attrs:=p.attrs,link:=p.link }:PD)=p:=rfl
    repeat' first|exact hc|(rw[hsl];exact hyk)|(rw[hrl,hsl];omega)|simp only[SA,MB,seval,rdB,jbP,jbu,jbt,jb5,jav]|simp only[hw]|simp only[hw2]|simp only[hw3]|simp only[hw4]|refine tT ?_|refine And.intro ?_ ?_|exact tC|(refine tI ?_;intro hyp)|intro hyp0|omega
    exact⟨x+1,by omega,by omega,Cos.intro [0,1,2,3,4] [] rfl (by rw[hput];(simp only[SA,MB,seval,rdB,jbP,jbu,jbt,jb5,jav]<;>exact tE))⟩
   ·obtain rfl:x=k:=by omega
    have hrt:jny (jeH L x r t b c p y) y x (jeU p) x=jeH L x r t b c p (y+1):=hst
    repeat' first|exact hc|simp only[SA,MB,seval,rdB,jbP,jbu,jbt,jb5,jav]|simp only[hw]|simp only[hw2]|simp only[hw3]|simp only[hw4]|refine tT ?_|refine And.intro ?_ ?_|exact tC|(refine tI ?_;intro hyp)|intro hyp0|omega
    exact⟨y+1,⟨by omega,by omega⟩,by omega,Cos.intro [0,1,2,3,4] [] rfl (by rw[hrt];(simp only[SA,MB,seval,rdB,jbP,jbu,jbt,jb5,jav]<;>exact tE))⟩
 ·obtain rfl:y=b+1:=by omega
  rw[joT hln (by omega) (by omega)]
  repeat' first|exact hc|simp only[SA,MB,seval,rdB,jbP,jbu,jbt,jb5,jav]|simp only[hw]|simp only[hw2]|simp only[hw3]|simp only[hw4]|refine tT ?_|refine Cos.intro [3] [] rfl ?_|refine And.intro ?_ ?_|exact tC|(refine tI ?_;intro hyp)|intro hyp0|omega)
end
end Go.Proofs.YtcfkfgkndncanaaGreatDoor
