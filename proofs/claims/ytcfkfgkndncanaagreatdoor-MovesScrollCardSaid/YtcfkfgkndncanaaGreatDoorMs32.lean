/- Texts of this claim, merged by a program of this claim: FApply3. -/
import Derived.Test.YtcfkfgkndncanaaGreatDoorMs31
namespace Go.Proofs.YtcfkfgkndncanaaGreatDoor
set_option linter.unusedVariables false
set_option linter.unusedSimpArgs false
section
open Go.RowKit
set_option maxRecDepth 100000
set_option maxHeartbeats 4000000
def Szd (k r:Int) (L:List CD):Prop:=(1≤k∧k≤80)∧(1≤r∧r≤24)∧L.length=k.toNat*r.toNat
theorem Szd.le {k r:Int}{L:List CD}(h:Szd k r L):L.length≤1920:=by
 obtain⟨h1,h2,h3⟩:=h
 have:k.toNat*r.toNat≤80*24:=Nat.mul_le_mul (by omega) (by omega)
 omega
theorem jwN {k r v:Nat}(h:v+1≤r):(v+1)*k≤k*r:=by
 rw[Nat.mul_comm k r]
 exact Nat.mul_le_mul_right k h
def Few (n:Nat):Prop:=(n:Int)<18446744073709551616
abbrev jfv (k:Int) (r:Int) (L:List CD) (x:Int) (y:Int) (hd:Bool) (mo:Int) (ti:ByteArray) (l:List ByteArray) (more:List ByteArray) (d:List Int) (a:Nat):List CV:=[.ptr 0 0 0]
abbrev jfw (k:Int) (r:Int) (L:List CD) (x:Int) (y:Int) (hd:Bool) (mo:Int) (ti:ByteArray) (l:List ByteArray) (more:List ByteArray) (d:List Int) (a:Nat):KH:=[RB 2 k r L.length x y hd mo ti l more,rdr d a 0,.seq .cell L]
abbrev jlf (k:Int) (r:Int) (L:List CD) (x:Int) (y:Int) (hd:Bool) (mo:Int) (ti:ByteArray) (l:List ByteArray) (more:List ByteArray) (d:List Int) (a:Nat):Prop×Res×KH:=(RdOk d a∧Szd k r L,.ret (.tup []),[RB 3 k r L.length x y hd mo ti l more,rdr d (cpsG d a k.toNat r.toNat L).2.1 0,.dead,.seq .cell (cpsG d a k.toNat r.toNat L).2.2])
noncomputable def jhp:MSpec:=jcS (α:=Int×Int×(List CD)×Int×Int×Bool×Int×ByteArray×(List ByteArray)×(List ByteArray)×(List Int)×Nat) (fun⟨k,r,L,x,y,hd,mo,ti,l,more,d,a⟩=>(jfv k r L x y hd mo ti l more d a,jfw k r L x y hd mo ti l more d a)) fun⟨k,r,L,x,y,hd,mo,ti,l,more,d,a⟩=>jlf k r L x y hd mo ti l more d a
noncomputable def esp_rcopies:ESpec:=jjo (α:=Int×Int×(List CD)×Int×Int×Bool×Int×ByteArray×(List ByteArray)×(List ByteArray)×(List Int)×Nat) (fun⟨k,r,L,x,y,hd,mo,ti,l,more,d,a⟩=>(jfv k r L x y hd mo ti l more d a,jfw k r L x y hd mo ti l more d a)) fun⟨k,r,L,x,y,hd,mo,ti,l,more,d,a⟩=>(cpsG d a k.toNat r.toNat L).1
theorem jhq:InjM (α:=Int×Int×(List CD)×Int×Int×Bool×Int×ByteArray×(List ByteArray)×(List ByteArray)×(List Int)×Nat) (fun⟨k,r,L,x,y,hd,mo,ti,l,more,d,a⟩=>(jfv k r L x y hd mo ti l more d a,jfw k r L x y hd mo ti l more d a)):=injM
theorem jas (k:Int) (r:Int) (L:List CD) (x:Int) (y:Int) (hd:Bool) (mo:Int) (ti:ByteArray) (l:List ByteArray) (more:List ByteArray) (d:List Int) (a:Nat):jhp (jfv k r L x y hd mo ti l more d a) (jfw k r L x y hd mo ti l more d a)=some (jlf k r L x y hd mo ti l more d a):=jbd _ jhq (k,r,L,x,y,hd,mo,ti,l,more,d,a)
theorem jat (k:Int) (r:Int) (L:List CD) (x:Int) (y:Int) (hd:Bool) (mo:Int) (ti:ByteArray) (l:List ByteArray) (more:List ByteArray) (d:List Int) (a:Nat):esp_rcopies (jfv k r L x y hd mo ti l more d a) (jfw k r L x y hd mo ti l more d a)=(cpsG d a k.toNat r.toNat L).1:=jdC _ jhq (k,r,L,x,y,hd,mo,ti,l,more,d,a)
theorem jtE:MutP Tryz.prog E0 66 jhp esp_rcopies:=MutP.of jhq fun⟨k,r,L,x,y,hd,mo,ti,l,more,d,a⟩ hG=>TF.intro (V:=(VV [(24,conT [.sl .cell] sp_clone),(104,conP jjF esp_some),(62,conP jfR esp_upto),(105,selC (conM msp_mrowM) (conA [.agg [.any,.any,.sl .cell,.any,.any,.any,.any,.any,.sl .str],.any] sp_mrow))] (.cons (jaa ja7) (Fresh.soundT jgB) (.cons (jaa jcM) (MutP.soundP jv6) (.cons (jaa jbs) (MutP.soundP jkI) (.cons (jaa jeC) (jmj (MutF.soundM jyU) (Alias.soundA jwL)) GOk.nil)))) 53 3)) jdn rfl rfl (by
 dsimp only[jfv,jfw,jlf]at hG ⊢
 obtain⟨hr0,hz⟩:=hG
 have hle:=hz.le
 obtain⟨hk,hr,hl⟩:=hz
 have hr1:=hr0
 obtain⟨h1,h2,h3⟩:=hr0
 obtain⟨k,rfl⟩:∃n:Nat,k=n:=⟨k.toNat,by omega⟩
 obtain⟨r,rfl⟩:∃n:Nat,r=n:=⟨r.toNat,by omega⟩
 simp only[Int.toNat_natCast]at hl ⊢
 have hl6:L.length≤1000000:=by omega
 have hv:=jaO h3 a
 by_cases e1:jf6 d a=0
 ·have hW:cpsG d a k r L=cpG d k r L (varV d a).toNat (a+varU d a) 0 L:=by rw[cpsG,if_neg (by simp[e1])]
  rw[hW]
  generalize hWg:cpG d k r L (varV d a).toNat (a+varU d a) 0 L=W
  have hw:=e1
  repeat' first|exact hr1|exact hl6|simp only[PB,SA,MB,seval,rdB,jaf,jaI,jaJ,jac,jad,jb9,jaZ,jb5,tq0,tq1,tq2]|simp only[hw]|simp only[hw2]|refine tT ?_|refine And.intro ?_ ?_|exact tC|(refine tI ?_;intro hyp)|intro hyp0|omega
  have hr2:RdOk d (a+varU d a):=⟨jbz h1,h2,h3⟩
  have hn0:((varV d a).toNat:Int)=varV d a:=by omega
  have hn1:((varV d a).toNat:Int)<18446744073709551616:=by omega
  refine T.loop (fun q:Nat×Nat×Nat×List CD=>⟨[(0,.ptr 0 0 0),(2,.ptr 3 0 0),(3,.int .i64 q.2.2.1),(4,.int .u64 q.1)],[RB 2 k r q.2.2.2.length x y hd mo ti l more,rdr d q.2.1 0,.seq .cell q.2.2.2,.box [.int .i64 k,.int .i64 r,.vec .cell L,.int .i64 x,.int .i64 y,.bool hd,.int .u8 mo,.str ti,.vec .str l]]⟩) (fun q=>Few q.1∧RdOk d q.2.1∧q.2.2.1≤r∧q.2.2.2.length=L.length∧cpG d k r L q.1 q.2.1 q.2.2.1 q.2.2.2=W) (fun q=>q.1) ((varV d a).toNat,a+varU d a,0,L) ⟨hn1,hr2,Nat.zero_le _,rfl,hWg⟩ (Cos.intro [0,1,2,3] [4] rfl (by simp only[hn0];(simp only[PB,SA,MB,seval,rdB,jaf,jaI,jaJ,jac,jad,jb9,jaZ,jb5,tq0,tq1,tq2]<;>exact tE))) (fun q hq=>?_)
  obtain⟨n,a',pos,cur⟩:=q
  obtain⟨hn,hr',hp,hcl,hg⟩:=hq
  dsimp only at hn hr' hp hcl hg
  have hn':(n:Int)<18446744073709551616:=hn
  have hr3:=hr'
  obtain⟨g1,g2,g3⟩:=hr'
  have gv:=jaO g3 a'
  have hr4:RdOk d (a'+varU d a'):=⟨jbz g1,g2,g3⟩
  have gv2:=jaO g3 (a'+varU d a')
  have hr5:RdOk d (a'+varU d a'+varU d (a'+varU d a')):=⟨jbz (jbz g1),g2,g3⟩
  cases n with
  | zero =>
   simp only[cpG]at hg
   subst hg
   rw[jcv rfl,jcw rfl]
   rw[←hcl]
   repeat' first|simp only[PB,SA,MB,seval,rdB,jaf,jaI,jaJ,jac,jad,jb9,jaZ,jb5,tq0,tq1,tq2]|simp only[hw]|simp only[hw2]|refine tT ?_|refine Cos.intro [0,1,2,2] [] rfl ?_|refine And.intro ?_ ?_|exact tC|(refine tI ?_;intro hyp)|intro hyp0|omega
  | succ n =>
   simp only[cpG]at hg
   by_cases t1:upE d a' ((r:Int)-1-pos)=0
   ·have u1:=jcq t1
    rw[if_neg (by simp[t1])]at hg
    have z1:((pos:Int)+varV d a').toNat+1≤r:=by omega
    have q1:=jwN (k:=k) z1
    rw[←hl,←hcl]at q1
    by_cases t2:upE d (a'+varU d a') ((r:Int)-1)=0
    ·have u2:=jcq t2
     rw[if_neg (by simp[t2])]at hg
     have z2:(varV d (a'+varU d a')).toNat+1≤r:=by omega
     have q2:=jwN (k:=k) z2
     rw[←hl]at q2
     have q3:((pos:Int)+varV d a').toNat*k+k≤cur.length:=by
      rw[Nat.add_mul,Nat.one_mul]at q1
      exact q1
     have z3:((pos:Int)+varV d a').toNat=pos+(varV d a').toNat:=by omega
     have hrl:(jaY L k (varV d (a'+varU d a')).toNat).length=k:=by
      rw[Nat.add_mul,Nat.one_mul]at q2
      simp only[jaY,List.length_take,List.length_drop]
      omega
     have hput:cur.take (((pos:Int)+varV d a').toNat*k)++(jaY L k (varV d (a'+varU d a')).toNat).take (min (jaY L k (varV d (a'+varU d a')).toNat).length k)++cur.drop (((pos:Int)+varV d a').toNat*k+min (jaY L k (varV d (a'+varU d a')).toNat).length k)=jgn cur ((pos+(varV d a').toNat)*k) (jaY L k (varV d (a'+varU d a')).toNat):=by
      rw[hrl,Nat.min_self,jgn,hrl,z3]
      congr 2
      rw[List.take_of_length_le (by omega)]
     have hpl:(jgn cur ((pos+(varV d a').toNat)*k) (jaY L k (varV d (a'+varU d a')).toNat)).length=cur.length:=jl8 (by rw[hrl,←z3];exact q3)
     have hwr:IntKind.u64.wrap (((n+1:Nat):Int)-1)=n:=by
      rw[show ((n+1:Nat):Int)-1=n by omega]
      exact jpz (by omega)
     have hps:(pos:Int)+varV d a'+1=((pos+(varV d a').toNat+1:Nat):Int):=by omega
     have hw2:=And.intro t1 t2
     repeat' first|exact hr3|exact hr4|exact q1|exact q2|exact q3|simp only[PB,SA,MB,seval,rdB,jaf,jaI,jaJ,jac,jad,jb9,jaZ,jb5,tq0,tq1,tq2]|simp only[hw]|simp only[hw2]|refine tT ?_|refine And.intro ?_ ?_|exact tC|(refine tI ?_;intro hyp)|intro hyp0|omega
     refine⟨(n,a'+varU d a'+varU d (a'+varU d a'),pos+(varV d a').toNat+1,jgn cur ((pos+(varV d a').toNat)*k) (jaY L k (varV d (a'+varU d a')).toNat)),⟨?_,hr5,?_,hpl.trans hcl,hg⟩,Nat.lt_succ_self _,Cos.intro [0,1,2,3] [] rfl ?_⟩
     ·unfold Few
      dsimp only
      omega
     ·dsimp only
      omega
     ·dsimp only
      rw[hput,hwr,hps,hpl]
      (simp only[PB,SA,MB,seval,rdB,jaf,jaI,jaJ,jac,jad,jb9,jaZ,jb5,tq0,tq1,tq2]<;>exact tE)
    ·rw[if_pos t2]at hg
     subst hg
     rw[ja0 t2,ja1 t2]
     have hw2:=And.intro t1 (eq_false t2)
     repeat' first|exact hr3|exact hr4|exact q1|simp only[PB,SA,MB,seval,rdB,jaf,jaI,jaJ,jac,jad,jb9,jaZ,jb5,tq0,tq1,tq2]|simp only[hw]|simp only[hw2]|refine tT ?_|refine Cos.err (Cos.intro [0,1,2] [] rfl ?_)|refine And.intro ?_ ?_|exact tC|(refine tI ?_;intro hyp)|intro hyp0|omega
   ·rw[if_pos t1]at hg
    subst hg
    rw[ja0 t1,ja1 t1]
    have hw2:=eq_false t1
    repeat' first|exact hr3|simp only[PB,SA,MB,seval,rdB,jaf,jaI,jaJ,jac,jad,jb9,jaZ,jb5,tq0,tq1,tq2]|simp only[hw]|simp only[hw2]|refine tT ?_|refine Cos.err (Cos.intro [0,1,2] [] rfl ?_)|refine And.intro ?_ ?_|exact tC|(refine tI ?_;intro hyp)|intro hyp0|omega
 ·have hW:cpsG d a k r L=(jf6 d a,0,[]):=by rw[cpsG,if_pos e1]
  rw[hW,ja0 e1,ja1 e1]
  have hw:=eq_false e1
  repeat' first|exact hr1|exact hl6|simp only[PB,SA,MB,seval,rdB,jaf,jaI,jaJ,jac,jad,jb9,jaZ,jb5,tq0,tq1,tq2]|simp only[hw]|simp only[hw2]|refine tT ?_|refine Cos.err (Cos.intro [0,1,2] [] rfl ?_)|refine And.intro ?_ ?_|exact tC|(refine tI ?_;intro hyp)|intro hyp0|omega)
end
end Go.Proofs.YtcfkfgkndncanaaGreatDoor
