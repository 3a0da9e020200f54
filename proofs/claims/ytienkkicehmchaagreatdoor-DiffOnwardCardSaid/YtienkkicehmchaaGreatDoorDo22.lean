/- Texts of this claim, merged by a program of this claim: FApply2, FApply3, FApply4. -/
import Derived.Test.YtienkkicehmchaaGreatDoorDo16
import Derived.Test.YtienkkicehmchaaGreatDoorDo21
import Derived.Test.YtienkkicehmchaaGreatDoorDo6
import Derived.Test.YtienkkicehmchaaGreatDoorDo9
namespace Go.Proofs.YtienkkicehmchaaGreatDoor
open And renaming intro→qaa
open Cos renaming intro→qab,err→qac
noncomputable section
set_option linter.unusedVariables false
set_option linter.unusedSimpArgs false
section
open Go.RowKit
set_option maxRecDepth 100000
set_option maxHeartbeats 4000000
abbrev q_mrowM (k r:Int) (L:List CD) (x y:Int) (hd:Bool) (mo:Int) (ti:ByteArray) (l:List ByteArray) (v:Int) (m:Nat):QM:=(([.agg [.int .i64 k,.int .i64 r,.slice 0 0 6 m m,.int .i64 x,.int .i64 y,.bool hd,.int .u8 mo,.str ti,.vec .str l],.int .i64 v],[.seq .cell L]),(0≤k∧k≤100)∧(0≤v∧v≤1000)∧(v.toNat+1)*k.toNat≤m∧m≤1000000∧L.length=m,.ret (.slice 0 (v.toNat*k.toNat) 6 k.toNat k.toNat),[.seq .cell L])
def msp_mrowM:=mspQ (u11 q_mrowM)
theorem jof:W11 (hM msp_mrowM) q_mrowM:=w11 (aM rfl)
theorem jxl:Mu 197 msp_mrowM:=ofM (u11 q_mrowM) fun⟨k,r,L,x,y,hd,mo,ti,l,v,m⟩ hG=>tfi .nil 1 jeX (by
 dsimp only[u11,q_mrowM]at hG ⊢
 have zc:=Hk.mk (qaa @tq0 (qaa @tq1 @tq2))
 obtain⟨hk,hv,hl,hm,hL⟩:=hG
 obtain⟨k,rfl⟩:∃n:Nat,k=n:=⟨k.toNat,by omega⟩
 obtain⟨v,rfl⟩:∃n:Nat,v=n:=⟨v.toNat,by omega⟩
 simp only[Int.toNat_natCast]at hl ⊢
 have hmf:=jei hl
 have hm2:(v+1)*k=v*k+k:=by rw[Nat.add_mul];omega
 have hvk:v*k≤1000000:=by omega
 repeat' first|refine tU ?_|refine qab [0] [] rfl ?_|refine qaa ?_ ?_|(refine tI ?_;intro hyp)|intro hyp0|exact tZ|omega)
theorem jkr (d:List Int) (a:Nat) (m:Int):(jdz d a m).length≤d.length:=by
 unfold jdz
 split
 ·rw[List.length_take,List.length_drop]
  omega
 ·exact Nat.zero_le _
theorem jqM {d:List Int}{a:Nat}{m:Int}(h:a≤d.length):a+jdA d a m≤d.length:=by
 have:=jaz h
 unfold jdA
 split
 ·rename_i q
  by_cases q1:varE d a=0
  ·by_cases q2:m<varV d a
   ·simp[jcv,q1,q2]at q
   ·by_cases q3:((d.length-(a+varU d a):Nat):Int)<varV d a
    ·simp[jcv,q1,q2,q3]at q
    ·omega
  ·simp[jcv,q1]at q
 ·omega
abbrev q_must3 (k r:Int) (L:List CD) (x y:Int) (hd:Bool) (mo:Int) (ti:ByteArray) (l m:List ByteArray) (d:List Int) (a:Nat) (e:Int):QP:=(([.ptr 0 0 0],[.box [.ptr 1 0 0,.int .i64 k,.int .i64 r,.slice 2 0 6 L.length L.length,.int .i64 x,.int .i64 y,.bool hd,.int .u8 mo,.str ti,.vec .str l,.slice 3 0 1 m.length m.length],rdr d a e,.seq .cell L,.seq .str m]),e,True,.ret (.tup []),[.box [.ptr 1 0 0,.int .i64 k,.int .i64 r,.slice 2 0 6 L.length L.length,.int .i64 x,.int .i64 y,.bool hd,.int .u8 mo,.str ti,.vec .str l,.slice 3 0 1 m.length m.length],rdr d a e,.seq .cell L,.seq .str m])
def msp_must3:=mspR (u13 q_must3)
def esp_must3:=espR (u13 q_must3)
theorem jog:InP (u13 q_must3):=injM
theorem joh:W13 (hP msp_must3 esp_must3) q_must3:=w13 (aP rfl rfl jog)
theorem jxm:Mp 181 msp_must3 esp_must3:=ofP (u13 q_must3) jog fun⟨k,r,L,x,y,hd,mo,ti,l,m,d,a,e⟩ hG=>tfi (.m jaP jie .nil) 4 jaK (by
 dsimp only[u13,q_must3]at hG ⊢
 have zc:=Hk.mk (qaa @jcx (qaa @tq0 (qaa @tq1 @tq2)))
 by_cases he:e=0
 ·rw[jaR he,jaS he]
  have hw:=he
  repeat' first|refine tU ?_|refine qab [0,1,2,3] [] rfl ?_|refine qaa ?_ ?_|(refine tI ?_;intro hyp)|intro hyp0|exact tZ|omega
 ·rw[jaf he,jag he]
  have hw:=eq_false he
  repeat' first|refine tU ?_|refine qac (qab [0,1,2,3] [] rfl ?_)|refine qaa ?_ ?_|(refine tI ?_;intro hyp)|intro hyp0|exact tZ|omega)
abbrev q_rlinks (k r:Int) (L:List CD) (x y:Int) (hd:Bool) (mo:Int) (ti:ByteArray) (l more:List ByteArray) (d:List Int) (a:Nat):QP:=(([.ptr 0 0 0],[RB 2 k r L.length x y hd mo ti l more,rdr d a 0,.seq .cell L]),(lkG d a l).1,RdOk d a∧(L.length≤60000∧l.length≤16)∧(∀c∈L,CWf c)∧(∀c∈L,c.link≤l.length),.ret (.tup []),[RB 3 k r L.length x y hd mo ti l (lkG d a l).2.2,rdr d (lkG d a l).2.1 0,.dead,.seq .cell (L.map (ulf l (lkG d a l).2.2))])
def msp_rlinks:=mspR (u12 q_rlinks)
def esp_rlinks:=espR (u12 q_rlinks)
theorem jlC:InP (u12 q_rlinks):=injM
theorem jmV:W12 (hP msp_rlinks esp_rlinks) q_rlinks:=w12 (aP rfl rfl jlC)
theorem juU:Mp 183 msp_rlinks esp_rlinks:=ofP (u12 q_rlinks) jlC fun⟨k,r,L,x,y,hd,mo,ti,l,more,d,a⟩ hG=>tfi (.p jaL jkn (.t [.sl .str] jbF jnR (.m jbx jmU (.p jaK jxm (.f [.any] jeT jph (.t jqK jeW jqL .nil)))))) 3 jcK (by
 dsimp only[u12,q_rlinks]at hG ⊢
 have zc:=Hk.mk (qaa @jdn (qaa @jiB (qaa @jfE (qaa @joh (qaa @jic (qaa @jkq (qaa @tq0 (qaa @tq1 @tq2))))))))
 obtain⟨hr,⟨hL,hl⟩,hwf,hlk⟩:=hG
 have hr0:=hr
 obtain⟨h1,h2,h3⟩:=hr
 have hv:=jae h3 a
 have hr1:RdOk d (a+varU d a):=⟨jaz h1,h2,h3⟩
 have hv2:=jae h3 (a+varU d a)
 have hr2:RdOk d (a+varU d a+varU d (a+varU d a)):=⟨jaz (jaz h1),h2,h3⟩
 by_cases e1:upE d a l.length=0
 ·have u1:=jaQ e1
  by_cases e2:upE d (a+varU d a) (16-varV d a)=0
  ·have u2:=jaQ e2
   have hW:lkG d a l=lnkG d (varV d (a+varU d a)).toNat (a+varU d a+varU d (a+varU d a)) (l.take (varV d a).toNat):=by rw[lkG,if_neg (by simp[e1]),if_neg (by simp[e2])]
   rw[hW]
   generalize hWg:lnkG d (varV d (a+varU d a)).toNat (a+varU d a+varU d (a+varU d a)) (l.take (varV d a).toNat)=W
   have hw:=qaa e1 e2
   have htk:(l.take (varV d a).toNat).length=(varV d a).toNat:=by rw[List.length_take];omega
   have htk2:(l.take (varV d a).toNat).length≤1000000:=by omega
   have hcap:(l.take (varV d a).toNat).length+(varV d (a+varU d a)).toNat≤16:=by omega
   repeat' first|exact hr0|exact hr1|exact htk2|refine tU ?_|refine qaa ?_ ?_|(refine tI ?_;intro hyp)|intro hyp0|exact tZ|omega
   refine T.loop (fun q:Nat×Nat×List ByteArray=>⟨[(0,.ptr 0 0 0),(28,.int .i64 (varV d (a+varU d a))),(29,.int .i64 q.1)],[.box [.ptr 1 0 0,.int .i64 k,.int .i64 r,.slice 2 0 6 L.length L.length,.int .i64 x,.int .i64 y,.bool hd,.int .u8 mo,.str ti,.vec .str l,.slice 3 0 1 q.2.2.length q.2.2.length],rdr d q.2.1 0,.seq .cell L,.seq .str q.2.2]⟩) (fun q=>q.1≤(varV d (a+varU d a)).toNat∧RdOk d q.2.1∧q.2.2.length+((varV d (a+varU d a)).toNat-q.1)≤16∧lnkG d ((varV d (a+varU d a)).toNat-q.1) q.2.1 q.2.2=W) (fun q=>(varV d (a+varU d a)).toNat-q.1) (0,a+varU d a+varU d (a+varU d a),l.take (varV d a).toNat) ⟨by omega,hr2,by omega,hWg⟩ (qab [0,1,2,3] [] rfl (by exact tF)) (fun⟨i,a',m⟩ ⟨hi,hr',hm,hg⟩=>?_)
   dsimp only at hi hm hg hr'
   obtain⟨g1,g2,g3⟩:=hr'
   by_cases hin:i<(varV d (a+varU d a)).toNat
   ·obtain⟨n',hn'⟩:∃n',(varV d (a+varU d a)).toNat-i=n'+1:=⟨(varV d (a+varU d a)).toNat-i-1,by omega⟩
    rw[hn']at hg
    simp only[lnkG]at hg
    have hsl:SLen (jas (jdz d a' 64)):=by
     have:=jkr d a' 64
     simp only[SLen,jbZ]
     omega
    by_cases t1:jcv d a' 64=0
    ·rw[if_neg (by simp[t1])]at hg
     cases t2:jca (jas (jdz d a' 64))
     ·rw[if_pos t2]at hg
      subst hg
      rw[jaf (by decide),jag (by decide)]
      have hw2:=qaa t1 t2
      repeat' first|exact g3 _ ‹_›|exact hsl|refine tU ?_|refine qac (qab [0,1,2] [] rfl ?_)|refine qaa ?_ ?_|(refine tI ?_;intro hyp)|intro hyp0|exact tZ|omega
     ·rw[if_neg (by simp[t2])]at hg
      have hw2:=qaa t1 t2
      have hml:m.length≤1073741823:=by omega
      repeat' first|exact g3 _ ‹_›|exact hsl|exact hml|refine tU ?_|refine qaa ?_ ?_|(refine tI ?_;intro hyp)|intro hyp0|exact tZ|omega
      exact⟨(i+1,a'+jdA d a' 64,m++[jas (jdz d a' 64)]),⟨by omega,⟨jqM g1,g2,g3⟩,by simp only[List.length_append,List.length_cons,List.length_nil];omega,(show (varV d (a+varU d a)).toNat-(i+1)=n' by omega)▸hg⟩,by simp only;omega,qab [0,1,2,5] [] rfl (by exact tF)⟩
    ·rw[if_pos t1]at hg
     subst hg
     rw[jaf t1,jag t1]
     have hw2:=eq_false t1
     repeat' first|exact g3 _ ‹_›|refine tU ?_|refine qac (qab [0,1,2] [] rfl ?_)|refine qaa ?_ ?_|(refine tI ?_;intro hyp)|intro hyp0|exact tZ|omega
   ·rw[show (varV d (a+varU d a)).toNat-i=0 by omega]at hg
    simp only[lnkG]at hg
    subst hg
    rw[jaR rfl,jaS rfl]
    have hlm:(L.map (ulf l m)).length=L.length:=by simp
    have hm6:m.length≤60000:=by omega
    have hw2:=hlm
    repeat' first|exact hwf|exact hlk|exact hm6|exact hlm|refine tU ?_|refine qab [0,1,2,4] [3] rfl ?_|refine qaa ?_ ?_|(refine tI ?_;intro hyp)|intro hyp0|exact tZ|omega
  ·have hW:lkG d a l=(upE d (a+varU d a) (16-varV d a),0,[]):=by rw[lkG,if_neg (by simp[e1]),if_pos e2]
   rw[hW,jaf e2,jag e2]
   have hw:=qaa e1 (eq_false e2)
   repeat' first|exact hr0|exact hr1|refine tU ?_|refine qac (qab [0,1,2] [] rfl ?_)|refine qaa ?_ ?_|(refine tI ?_;intro hyp)|intro hyp0|exact tZ|omega
 ·have hW:lkG d a l=(upE d a l.length,0,[]):=by rw[lkG,if_pos e1]
  rw[hW,jaf e1,jag e1]
  have hw:=eq_false e1
  repeat' first|exact hr0|refine tU ?_|refine qac (qab [0,1,2] [] rfl ?_)|refine qaa ?_ ?_|(refine tI ?_;intro hyp)|intro hyp0|exact tZ|omega)
end
section
open Go.RowKit
set_option maxRecDepth 100000
set_option maxHeartbeats 4000000
def Szd (k r:Int) (L:List CD):Prop:=(1≤k∧k≤80)∧(1≤r∧r≤24)∧L.length=k.toNat*r.toNat
theorem Szd.le {k r:Int}{L:List CD}(h:Szd k r L):L.length≤1920:=by
 obtain⟨h1,h2,h3⟩:=h
 have:k.toNat*r.toNat≤80*24:=Nat.mul_le_mul (by omega) (by omega)
 omega
theorem juV {k r v:Nat}(h:v+1≤r):(v+1)*k≤k*r:=by
 rw[Nat.mul_comm k r]
 exact Nat.mul_le_mul_right k h
def Few (n:Nat):Prop:=(n:Int)<18446744073709551616
abbrev q_rcopies (k r:Int) (L:List CD) (x y:Int) (hd:Bool) (mo:Int) (ti:ByteArray) (l more:List ByteArray) (d:List Int) (a:Nat):QP:=(([.ptr 0 0 0],[RB 2 k r L.length x y hd mo ti l more,rdr d a 0,.seq .cell L]),(cpsG d a k.toNat r.toNat L).1,RdOk d a∧Szd k r L,.ret (.tup []),[RB 3 k r L.length x y hd mo ti l more,rdr d (cpsG d a k.toNat r.toNat L).2.1 0,.dead,.seq .cell (cpsG d a k.toNat r.toNat L).2.2])
def msp_rcopies:=mspR (u12 q_rcopies)
def esp_rcopies:=espR (u12 q_rcopies)
theorem jks:InP (u12 q_rcopies):=injM
theorem jkU:W12 (hP msp_rcopies esp_rcopies) q_rcopies:=w12 (aP rfl rfl jks)
theorem jsi:Mp 184 msp_rcopies esp_rcopies:=ofP (u12 q_rcopies) jks fun⟨k,r,L,x,y,hd,mo,ti,l,more,d,a⟩ hG=>tfi (.t [.sl .cell] jau jdM (.p jbN juR (.p jaL jkn (.cons (jaY jeX) (jlx (MutF.soundM jxl) (Alias.soundA (ks:=juF) juG)) .nil)))) 3 jco (by
 dsimp only[u12,q_rcopies]at hG ⊢
 have zc:=Hk.mk (qaa @jbz (qaa @jkp (qaa @jdn (qaa @jof (qaa @jly (qaa @juE (qaa @tq0 (qaa @tq1 @tq2))))))))
 obtain⟨hr0,hz⟩:=hG
 have hle:=hz.le
 obtain⟨hk,hr,hl⟩:=hz
 have hr1:=hr0
 obtain⟨h1,h2,h3⟩:=hr0
 obtain⟨k,rfl⟩:∃n:Nat,k=n:=⟨k.toNat,by omega⟩
 obtain⟨r,rfl⟩:∃n:Nat,r=n:=⟨r.toNat,by omega⟩
 simp only[Int.toNat_natCast]at hl ⊢
 have hl6:L.length≤1000000:=by omega
 have hv:=jae h3 a
 by_cases e1:jc2 d a=0
 ·have hW:cpsG d a k r L=cpG d k r L (varV d a).toNat (a+varU d a) 0 L:=by rw[cpsG,if_neg (by simp[e1])]
  rw[hW]
  generalize hWg:cpG d k r L (varV d a).toNat (a+varU d a) 0 L=W
  have hw:=e1
  repeat' first|exact hr1|exact hl6|refine tU ?_|refine qaa ?_ ?_|(refine tI ?_;intro hyp)|intro hyp0|exact tZ|omega
  have hr2:RdOk d (a+varU d a):=⟨jaz h1,h2,h3⟩
  have hn0:((varV d a).toNat:Int)=varV d a:=by omega
  have hn1:((varV d a).toNat:Int)<18446744073709551616:=by omega
  refine T.loop (fun q:Nat×Nat×Nat×List CD=>⟨[(0,.ptr 0 0 0),(2,.ptr 3 0 0),(3,.int .i64 q.2.2.1),(4,.int .u64 q.1)],[RB 2 k r q.2.2.2.length x y hd mo ti l more,rdr d q.2.1 0,.seq .cell q.2.2.2,.box [.int .i64 k,.int .i64 r,.vec .cell L,.int .i64 x,.int .i64 y,.bool hd,.int .u8 mo,.str ti,.vec .str l]]⟩) (fun q=>Few q.1∧RdOk d q.2.1∧q.2.2.1≤r∧q.2.2.2.length=L.length∧cpG d k r L q.1 q.2.1 q.2.2.1 q.2.2.2=W) (fun q=>q.1) ((varV d a).toNat,a+varU d a,0,L) ⟨hn1,hr2,Nat.zero_le _,rfl,hWg⟩ (qab [0,1,2,3] [4] rfl (by simp only[hn0];exact tF)) (fun q hq=>?_)
  obtain⟨n,a',pos,cur⟩:=q
  obtain⟨hn,hr',hp,hcl,hg⟩:=hq
  dsimp only at hn hr' hp hcl hg
  have hn':(n:Int)<18446744073709551616:=hn
  have hr3:=hr'
  obtain⟨g1,g2,g3⟩:=hr'
  have gv:=jae g3 a'
  have hr4:RdOk d (a'+varU d a'):=⟨jaz g1,g2,g3⟩
  have gv2:=jae g3 (a'+varU d a')
  have hr5:RdOk d (a'+varU d a'+varU d (a'+varU d a')):=⟨jaz (jaz g1),g2,g3⟩
  cases n with
  | zero =>
   simp only[cpG]at hg
   subst hg
   rw[jaR rfl,jaS rfl]
   rw[←hcl]
   repeat' first|refine tU ?_|refine qab [0,1,2,2] [] rfl ?_|refine qaa ?_ ?_|(refine tI ?_;intro hyp)|intro hyp0|exact tZ|omega
  | succ n =>
   simp only[cpG]at hg
   by_cases t1:upE d a' ((r:Int)-1-pos)=0
   ·have u1:=jaQ t1
    rw[if_neg (by simp[t1])]at hg
    have z1:((pos:Int)+varV d a').toNat+1≤r:=by omega
    have q1:=juV (k:=k) z1
    rw[←hl,←hcl]at q1
    by_cases t2:upE d (a'+varU d a') ((r:Int)-1)=0
    ·have u2:=jaQ t2
     rw[if_neg (by simp[t2])]at hg
     have z2:(varV d (a'+varU d a')).toNat+1≤r:=by omega
     have q2:=juV (k:=k) z2
     rw[←hl]at q2
     have q3:((pos:Int)+varV d a').toNat*k+k≤cur.length:=by
      rw[Nat.add_mul,Nat.one_mul]at q1
      exact q1
     have z3:((pos:Int)+varV d a').toNat=pos+(varV d a').toNat:=by omega
     have hrl:(jax L k (varV d (a'+varU d a')).toNat).length=k:=by
      rw[Nat.add_mul,Nat.one_mul]at q2
      simp only[jax,List.length_take,List.length_drop]
      omega
     have hput:cur.take (((pos:Int)+varV d a').toNat*k)++(jax L k (varV d (a'+varU d a')).toNat).take (min (jax L k (varV d (a'+varU d a')).toNat).length k)++cur.drop (((pos:Int)+varV d a').toNat*k+min (jax L k (varV d (a'+varU d a')).toNat).length k)=jcg cur ((pos+(varV d a').toNat)*k) (jax L k (varV d (a'+varU d a')).toNat):=by
      rw[hrl,Nat.min_self,jcg,hrl,z3]
      congr 2
      rw[List.take_of_length_le (by omega)]
     have hpl:(jcg cur ((pos+(varV d a').toNat)*k) (jax L k (varV d (a'+varU d a')).toNat)).length=cur.length:=jlz (by rw[hrl,←z3];exact q3)
     have hwr:IntKind.u64.wrap (((n+1:Nat):Int)-1)=n:=by
      rw[show ((n+1:Nat):Int)-1=n by omega]
      exact jhd (by omega)
     have hps:(pos:Int)+varV d a'+1=((pos+(varV d a').toNat+1:Nat):Int):=by omega
     have hw2:=qaa t1 t2
     repeat' first|exact hr3|exact hr4|exact q1|exact q2|exact q3|refine tU ?_|refine qaa ?_ ?_|(refine tI ?_;intro hyp)|intro hyp0|exact tZ|omega
     refine⟨(n,a'+varU d a'+varU d (a'+varU d a'),pos+(varV d a').toNat+1,jcg cur ((pos+(varV d a').toNat)*k) (jax L k (varV d (a'+varU d a')).toNat)),⟨?_,hr5,?_,hpl.trans hcl,hg⟩,Nat.lt_succ_self _,qab [0,1,2,3] [] rfl ?_⟩
     ·unfold Few
      dsimp only
      omega
     ·dsimp only
      omega
     ·dsimp only
      rw[hput,hwr,hps,hpl]
      exact tF
    ·rw[if_pos t2]at hg
     subst hg
     rw[jaf t2,jag t2]
     have hw2:=qaa t1 (eq_false t2)
     repeat' first|exact hr3|exact hr4|exact q1|refine tU ?_|refine qac (qab [0,1,2] [] rfl ?_)|refine qaa ?_ ?_|(refine tI ?_;intro hyp)|intro hyp0|exact tZ|omega
   ·rw[if_pos t1]at hg
    subst hg
    rw[jaf t1,jag t1]
    have hw2:=eq_false t1
    repeat' first|exact hr3|refine tU ?_|refine qac (qab [0,1,2] [] rfl ?_)|refine qaa ?_ ?_|(refine tI ?_;intro hyp)|intro hyp0|exact tZ|omega
 ·have hW:cpsG d a k r L=(jc2 d a,0,[]):=by rw[cpsG,if_pos e1]
  rw[hW,jaf e1,jag e1]
  have hw:=eq_false e1
  repeat' first|exact hr1|exact hl6|refine tU ?_|refine qac (qab [0,1,2] [] rfl ?_)|refine qaa ?_ ?_|(refine tI ?_;intro hyp)|intro hyp0|exact tZ|omega)
end
section
open Go.RowKit
set_option maxRecDepth 100000
set_option maxHeartbeats 4000000
theorem jlD {d:List Int}{a:Nat}(h:colE d a=0):upE d a 4294967295=0:=by
 rcases jf0 d a with q|q|q
 ·exact q.1
 ·rw[q.2.2]at h
  cases h
 ·exact absurd (q.2.symm.trans h) q.1
theorem jd3 {d:List Int}{a b:Nat}(h:RdOk d a) (e:a+varU d a=b):RdOk d b:=e▸⟨jaz h.1,h.2.1,h.2.2⟩
theorem jkt {d:List Int}{k nl n a pos:Nat}{L:List CD}{e:Int}(h:hdG d a pos L.length nl=jbq e) (he:¬e=0):rnG d k nl (n+1) a pos L=(e,0,[]):=by
 simp only[rnG,h,jbq,ne_eq,he,not_false_eq_true,if_true]
theorem jBG {d:List Int}{k nl n a pos a6 p1 N:Nat}{p:PD}{L:List CD}{U:Int×Nat×Nat×List CD}(h:hdG d a pos L.length nl=⟨0,a6,p1,N,p⟩) (hU:letG d k p N a6 p1 L=U):rnG d k nl (n+1) a pos L=if U.1≠0 then (U.1,0,[]) else rnG d k nl n U.2.1 U.2.2.1 U.2.2.2:=by
 simp only[rnG,h,hU,ne_eq,not_true_eq_false,if_false]
theorem jxn (r:Int):0≤Utf.width r∧Utf.width r≤2:=by
 unfold Utf.width
 repeat' split
 all_goals omega
theorem jzI {k r pos:Nat}(h:pos<k*r) (hm:pos % k+2≤k):pos+1<k*r:=by
 have e:=Nat.div_add_mod pos k
 have hq:pos / k<r:=Nat.div_lt_of_lt_mul h
 have:k*(pos / k+1)≤k*r:=Nat.mul_le_mul_left k hq
 rw[Nat.mul_add,Nat.mul_one]at this
 omega
abbrev q_rruns (k r:Int) (L:List CD) (x y:Int) (hd:Bool) (mo:Int) (ti:ByteArray) (l more:List ByteArray) (d:List Int) (a:Nat):QP:=(([.ptr 0 0 0],[RB 2 k r L.length x y hd mo ti l more,rdr d a 0,.seq .cell L]),(rnsG d a k.toNat more.length L).1,RdOk d a∧Szd k r L∧more.length≤16,.ret (.tup []),[RB 3 k r L.length x y hd mo ti l more,rdr d (rnsG d a k.toNat more.length L).2.1 0,.dead,.seq .cell (rnsG d a k.toNat more.length L).2.2])
def msp_rruns:=mspR (u12 q_rruns)
def esp_rruns:=espR (u12 q_rruns)
theorem joi:InP (u12 q_rruns):=injM
theorem joj:W12 (hP msp_rruns esp_rruns) q_rruns:=w12 (aP rfl rfl joi)
theorem jxo:Mp 185 msp_rruns esp_rruns:=ofP (u12 q_rruns) joi fun⟨k,r,L,x,y,hd,mo,ti,l,more,d,a⟩ hG=>tfi (.p jbN juR (.p jaL jkn (.p jcL jxk (.f [.any] jeN jmw .nil)))) 3 jcR (by
 dsimp only[u12,q_rruns]at hG ⊢
 have zc:=Hk.mk (qaa @jkp (qaa @jdn (qaa @joe (qaa @jgz (qaa @tq0 (qaa @tq1 @tq2))))))
 obtain⟨hr0,hz,hmo⟩:=hG
 have hle:=hz.le
 obtain⟨hk,hr,hl⟩:=hz
 have hr1:=hr0
 obtain⟨h1,h2,h3⟩:=hr0
 obtain⟨k,rfl⟩:∃n:Nat,k=n:=⟨k.toNat,by omega⟩
 obtain⟨r,rfl⟩:∃n:Nat,r=n:=⟨r.toNat,by omega⟩
 simp only[Int.toNat_natCast]at hl ⊢
 have hv:=jae h3 a
 by_cases e1:jc2 d a=0
 ·have hW:rnsG d a k more.length L=rnG d k more.length (varV d a).toNat (a+varU d a) 0 L:=by rw[rnsG,if_neg (by simp[e1])]
  rw[hW]
  generalize hWg:rnG d k more.length (varV d a).toNat (a+varU d a) 0 L=W
  have hw:=e1
  repeat' first|exact hr1|refine tU ?_|refine qaa ?_ ?_|(refine tI ?_;intro hyp)|intro hyp0|exact tZ|omega
  have hr2:RdOk d (a+varU d a):=⟨jaz h1,h2,h3⟩
  have hn0:((varV d a).toNat:Int)=varV d a:=by omega
  have hn1:((varV d a).toNat:Int)<18446744073709551616:=by omega
  refine T.loop (fun q:Nat×Nat×Nat×List CD=>⟨[(0,.ptr 0 0 0),(2,.int .i64 q.2.2.1),(3,.int .i64 q.2.2.2.length),(4,.int .u64 q.1)],[RB 2 k r q.2.2.2.length x y hd mo ti l more,rdr d q.2.1 0,.seq .cell q.2.2.2]⟩) (fun q=>Few q.1∧RdOk d q.2.1∧q.2.2.1≤q.2.2.2.length∧q.2.2.2.length=L.length∧rnG d k more.length q.1 q.2.1 q.2.2.1 q.2.2.2=W) (fun q=>q.1) ((varV d a).toNat,a+varU d a,0,L) ⟨hn1,hr2,Nat.zero_le _,rfl,hWg⟩ (qab [0,1,2] [] rfl (by simp only[hn0];exact tF)) (fun q hq=>?_)
  obtain⟨n,a0,pos,cur⟩:=q
  obtain⟨hn,hra,hp,hcl,hg⟩:=hq
  dsimp only at hn hra hp hcl hg
  have hn':(n:Int)<18446744073709551616:=hn
  cases n with
  | zero =>
   simp only[rnG]at hg
   subst hg
   rw[jaR rfl,jaS rfl,←hcl]
   repeat' first|refine tU ?_|refine qab [0,1,2,2] [] rfl ?_|refine qaa ?_ ?_|(refine tI ?_;intro hyp)|intro hyp0|exact tZ|omega
  | succ n =>
   have g3:=hra.2.2
   obtain⟨a1,b1⟩:∃a1,a0+varU d a0=a1:=⟨_,rfl⟩
   obtain⟨a2,b2⟩:∃a2,a1+varU d a1=a2:=⟨_,rfl⟩
   obtain⟨a3,b3⟩:∃a3,a2+varU d a2=a3:=⟨_,rfl⟩
   obtain⟨a4,b4⟩:∃a4,a3+varU d a3=a4:=⟨_,rfl⟩
   obtain⟨a5,b5⟩:∃a5,a4+varU d a4=a5:=⟨_,rfl⟩
   obtain⟨a6,b6⟩:∃a6,a5+varU d a5=a6:=⟨_,rfl⟩
   have hr1:=jd3 hra b1
   have hr2:=jd3 hr1 b2
   have hr3:=jd3 hr2 b3
   have hr4:=jd3 hr3 b4
   have hr5:=jd3 hr4 b5
   have hr6:=jd3 hr5 b6
   have v0:=jae g3 a0
   have v1:=jae g3 a1
   have v2:=jae g3 a2
   have v3:=jae g3 a3
   have v4:=jae g3 a4
   have v5:=jae g3 a5
   have hp1:((pos+(varV d a0).toNat:Nat):Int)=pos+varV d a0:=by omega
   by_cases t1:upE d a0 ((cur.length:Int)-pos)=0
   case neg =>
    have hH:hdG d a0 pos cur.length more.length=jbq (upE d a0 ((cur.length:Int)-pos)):=by simp only[hdG,t1,hp1,b1,b2,b3,b4,b5,ne_eq,not_true_eq_false,not_false_eq_true,if_true,if_false]
    rw[jkt hH t1]at hg
    subst hg
    rw[jaf t1,jag t1]
    have hw2:=qaa (b1) (qaa (b2) (qaa (b3) (qaa (b4) (qaa (b5) (qaa (b6) (eq_false t1))))))
    repeat' first|exact hra|refine tU ?_|refine qac (qab [0,1,2] [] rfl ?_)|refine qaa ?_ ?_|(refine tI ?_;intro hyp)|intro hyp0|exact tZ|omega
   have u1:=jaQ t1
   by_cases t2:upE d a1 ((cur.length:Int)-(pos+varV d a0))=0
   case neg =>
    have hH:hdG d a0 pos cur.length more.length=jbq (upE d a1 ((cur.length:Int)-(pos+varV d a0))):=by simp only[hdG,t1,t2,hp1,b1,b2,b3,b4,b5,ne_eq,not_true_eq_false,not_false_eq_true,if_true,if_false]
    rw[jkt hH t2]at hg
    subst hg
    rw[jaf t2,jag t2]
    have hw2:=qaa (b1) (qaa (b2) (qaa (b3) (qaa (b4) (qaa (b5) (qaa (b6) (qaa (t1) (eq_false t2)))))))
    repeat' first|exact hra|exact hr1|refine tU ?_|refine qac (qab [0,1,2] [] rfl ?_)|refine qaa ?_ ?_|(refine tI ?_;intro hyp)|intro hyp0|exact tZ|omega
   have u2:=jaQ t2
   by_cases t3:varV d a1=0
   case pos =>
    have hH:hdG d a0 pos cur.length more.length=jbq (3):=by simp only[hdG,t1,t2,t3,hp1,b1,b2,b3,b4,b5,ne_eq,not_true_eq_false,not_false_eq_true,if_true,if_false]
    rw[jkt hH (by decide)]at hg
    subst hg
    rw[jaf (by decide),jag (by decide)]
    have hw2:=qaa (b1) (qaa (b2) (qaa (b3) (qaa (b4) (qaa (b5) (qaa (b6) (qaa (t1) (qaa (t2) (t3))))))))
    repeat' first|exact hra|exact hr1|refine tU ?_|refine qac (qab [0,1,2] [] rfl ?_)|refine qaa ?_ ?_|(refine tI ?_;intro hyp)|intro hyp0|exact tZ|omega
   by_cases t4:colE d a2=0
   case neg =>
    have hH:hdG d a0 pos cur.length more.length=jbq (colE d a2):=by simp only[hdG,t1,t2,t3,t4,hp1,b1,b2,b3,b4,b5,ne_eq,not_true_eq_false,not_false_eq_true,if_true,if_false]
    rw[jkt hH t4]at hg
    subst hg
    rw[jaf t4,jag t4]
    have hw2:=qaa (b1) (qaa (b2) (qaa (b3) (qaa (b4) (qaa (b5) (qaa (b6) (qaa (t1) (qaa (t2) (qaa (eq_false t3) (eq_false t4)))))))))
    repeat' first|exact hra|exact hr1|exact hr2|refine tU ?_|refine qac (qab [0,1,2] [] rfl ?_)|refine qaa ?_ ?_|(refine tI ?_;intro hyp)|intro hyp0|exact tZ|omega
   have u4:=jaQ (jlD t4)
   by_cases t5:colE d a3=0
   case neg =>
    have hH:hdG d a0 pos cur.length more.length=jbq (colE d a3):=by simp only[hdG,t1,t2,t3,t4,t5,hp1,b1,b2,b3,b4,b5,ne_eq,not_true_eq_false,not_false_eq_true,if_true,if_false]
    rw[jkt hH t5]at hg
    subst hg
    rw[jaf t5,jag t5]
    have hw2:=qaa (b1) (qaa (b2) (qaa (b3) (qaa (b4) (qaa (b5) (qaa (b6) (qaa (t1) (qaa (t2) (qaa (eq_false t3) (qaa (t4) (eq_false t5))))))))))
    repeat' first|exact hra|exact hr1|exact hr2|exact hr3|refine tU ?_|refine qac (qab [0,1,2] [] rfl ?_)|refine qaa ?_ ?_|(refine tI ?_;intro hyp)|intro hyp0|exact tZ|omega
   have u5:=jaQ (jlD t5)
   by_cases t6:upE d a4 255=0
   case neg =>
    have hH:hdG d a0 pos cur.length more.length=jbq (upE d a4 255):=by simp only[hdG,t1,t2,t3,t4,t5,t6,hp1,b1,b2,b3,b4,b5,ne_eq,not_true_eq_false,not_false_eq_true,if_true,if_false]
    rw[jkt hH t6]at hg
    subst hg
    rw[jaf t6,jag t6]
    have hw2:=qaa (b1) (qaa (b2) (qaa (b3) (qaa (b4) (qaa (b5) (qaa (b6) (qaa (t1) (qaa (t2) (qaa (eq_false t3) (qaa (t4) (qaa (t5) (eq_false t6)))))))))))
    repeat' first|exact hra|exact hr1|exact hr2|exact hr3|exact hr4|refine tU ?_|refine qac (qab [0,1,2] [] rfl ?_)|refine qaa ?_ ?_|(refine tI ?_;intro hyp)|intro hyp0|exact tZ|omega
   have u6:=jaQ t6
   by_cases t7:upE d a5 more.length=0
   case neg =>
    have hH:hdG d a0 pos cur.length more.length=jbq (upE d a5 more.length):=by simp only[hdG,t1,t2,t3,t4,t5,t6,t7,hp1,b1,b2,b3,b4,b5,ne_eq,not_true_eq_false,not_false_eq_true,if_true,if_false]
    rw[jkt hH t7]at hg
    subst hg
    rw[jaf t7,jag t7]
    have hw2:=qaa (b1) (qaa (b2) (qaa (b3) (qaa (b4) (qaa (b5) (qaa (b6) (qaa (t1) (qaa (t2) (qaa (eq_false t3) (qaa (t4) (qaa (t5) (qaa (t6) (eq_false t7))))))))))))
    repeat' first|exact hra|exact hr1|exact hr2|exact hr3|exact hr4|exact hr5|refine tU ?_|refine qac (qab [0,1,2] [] rfl ?_)|refine qaa ?_ ?_|(refine tI ?_;intro hyp)|intro hyp0|exact tZ|omega
   have u7:=jaQ t7
   have hH:hdG d a0 pos cur.length more.length=⟨0,a6,pos+(varV d a0).toNat,(varV d a1).toNat,⟨varV d a2,varV d a3,varV d a4,varV d a5⟩⟩:=by simp only[hdG,t1,t2,t3,t4,t5,t6,t7,hp1,b1,b2,b3,b4,b5,b6,ne_eq,not_true_eq_false,not_false_eq_true,if_true,if_false]
   obtain⟨U,hU⟩:∃U,letG d k ⟨varV d a2,varV d a3,varV d a4,varV d a5⟩ (varV d a1).toNat a6 (pos+(varV d a0).toNat) cur=U:=⟨_,rfl⟩
   rw[jBG hH hU]at hg
   have hw2:=qaa (b1) (qaa (b2) (qaa (b3) (qaa (b4) (qaa (b5) (qaa (b6) (qaa (t1) (qaa (t2) (qaa (eq_false t3) (qaa (t4) (qaa (t5) (qaa (t6) (t7))))))))))))
   have hw3:=qaa (w_u8 (n:=varV d a4) (by omega)) (joP (n:=varV d a5) (by omega))
   repeat' first|exact hra|exact hr1|exact hr2|exact hr3|exact hr4|exact hr5|refine tU ?_|refine qaa ?_ ?_|(refine tI ?_;intro hyp)|intro hyp0|exact tZ|omega
   have hN:((varV d a1).toNat:Int)=varV d a1:=by omega
   have hp0:pos+(varV d a0).toNat≤cur.length:=by omega
   refine T.loop (fun q:Nat×Nat×Nat×List CD=>⟨[(0,.ptr 0 0 0),(2,.int .i64 q.2.2.1),(3,.int .i64 q.2.2.2.length),(4,.int .u64 ((n+1:Nat):Int)),(6,.ptr 3 0 0),(52,.int .i64 (varV d a1)),(53,.int .i64 q.1)],[RB 2 k r q.2.2.2.length x y hd mo ti l more,rdr d q.2.1 0,.seq .cell q.2.2.2,.box [.int .u32 (varV d a2),.int .u32 (varV d a3),.int .u8 (varV d a4),.int .u16 (varV d a5)]]⟩) (fun q=>q.1≤(varV d a1).toNat∧RdOk d q.2.1∧q.2.2.1≤q.2.2.2.length∧q.2.2.2.length=L.length∧letG d k ⟨varV d a2,varV d a3,varV d a4,varV d a5⟩ ((varV d a1).toNat-q.1) q.2.1 q.2.2.1 q.2.2.2=U) (fun q=>(varV d a1).toNat-q.1) (0,a6,pos+(varV d a0).toNat,cur) ⟨Nat.zero_le _,hr6,hp0,hcl,hU⟩ (qab [0,1,2,3] [] rfl (by simp only[hp1];exact tF)) (fun q hq=>?_)
   clear hw2 hw3
   obtain⟨i,c0,ps,crr⟩:=q
   obtain⟨hi,hra',hp',hcl',hU'⟩:=hq
   dsimp only at hi hra' hp' hcl' hU'
   have g4:=jae g3 c0
   by_cases hiN:i<(varV d a1).toNat
   ·obtain⟨m,hm⟩:∃m,(varV d a1).toNat-i=m+1:=⟨(varV d a1).toNat-i-1,by omega⟩
    rw[hm]at hU'
    simp only[letG]at hU'
    by_cases s1:upE d c0 1114111=0
    case neg =>
     rw[if_pos s1]at hU'
     subst hU'
     rw[if_pos s1]at hg
     subst hg
     rw[jaf s1,jag s1]
     have hw2:=eq_false s1
     repeat' first|exact hra'|refine tU ?_|refine qac (qab [0,1,2] [] rfl ?_)|refine qaa ?_ ?_|(refine tI ?_;intro hyp)|intro hyp0|exact tZ|omega
    have w1:=jaQ s1
    rw[if_neg (by simp[s1])]at hU'
    obtain⟨c1,b7⟩:∃c1,c0+varU d c0=c1:=⟨_,rfl⟩
    have hrc:=jd3 hra' b7
    rw[b7]at hU'
    have hI:I32 (varV d c0):=by
     unfold I32
     omega
    have hw3:=qaa (jnt (n:=varV d c0) (by omega)) (qaa b7 s1)
    have hm1:((ps % k:Nat):Int)=(ps:Int) % (k:Int):=rfl
    have hm2:0≤(ps:Int) % (k:Int)∧(ps:Int) % (k:Int)<k:=by
     rw[←hm1]
     have:=Nat.mod_lt ps (show 0<k by omega)
     omega
    have hwd:=jxn (varV d c0)
    by_cases s2:Utf.width (varV d c0)=0∨ps=crr.length∨(k:Int)<((ps % k:Nat):Int)+Utf.width (varV d c0)
    ·rw[if_pos s2]at hU'
     subst hU'
     rw[if_pos (by decide)]at hg
     subst hg
     rw[jaf (by decide),jag (by decide)]
     repeat' first|exact hra'|exact hI|refine tU ?_|refine qac (qab [0,1,2] [] rfl ?_)|refine qaa ?_ ?_|(refine tI ?_;intro hyp)|intro hyp0|exact tZ|omega
    ·rw[if_neg s2]at hU'
     have s3:=not_or.mp s2
     have s4:=not_or.mp s3.2
     have s5:=s4.2
     rw[hm1]at s5
     have hput:(putL crr ps (varV d c0) (Utf.width (varV d c0)) ⟨varV d a2,varV d a3,varV d a4,varV d a5⟩).length=crr.length:=jqA _ _ _ _ _
     have hin:Utf.width (varV d c0)=2→ps+1<crr.length:=fun e=>by
      rw[e]at s5
      rw[hcl',hl]
      exact jzI (by rw[←hl,←hcl'];omega) (by omega)
     have hget:∀A:CD,(crr.set ps A).getD ps default=A:=fun A=>jeU (by omega)
     have hset:∀A B:CD,(crr.set ps A).set ps B=crr.set ps B:=fun A B=>List.set_set ..
     have hw4:=qaa hget hset
     have hps:(ps:Int)+Utf.width (varV d c0)=((ps+(Utf.width (varV d c0)).toNat:Nat):Int):=by omega
     repeat' first|exact hra'|exact hI|exact hin ‹_›|exact Int.ofNat_lt.mpr (hin ‹_›)|refine tU ?_|refine qaa ?_ ?_|(refine tI ?_;intro hyp)|intro hyp0|exact tZ|omega
     ·have hx:=hin hyp
      refine⟨(i+1,c1,ps+(Utf.width (varV d c0)).toNat,putL crr ps (varV d c0) (Utf.width (varV d c0)) ⟨varV d a2,varV d a3,varV d a4,varV d a5⟩),⟨?_,hrc,?_,hput.trans hcl',?_⟩,?_,qab [0,1,2,3] [] rfl ?_⟩
      ·dsimp only
       omega
      ·dsimp only
       rw[hput]
       omega
      ·dsimp only
       rw[show (varV d a1).toNat-(i+1)=m by omega]
       exact hU'
      ·dsimp only
       omega
      ·dsimp only
       rw[hps,hput]
       rw[putL,if_pos hyp]
       exact tF
     ·refine⟨(i+1,c1,ps+(Utf.width (varV d c0)).toNat,putL crr ps (varV d c0) (Utf.width (varV d c0)) ⟨varV d a2,varV d a3,varV d a4,varV d a5⟩),⟨?_,hrc,?_,hput.trans hcl',?_⟩,?_,qab [0,1,2,3] [] rfl ?_⟩
      ·dsimp only
       omega
      ·dsimp only
       rw[hput]
       omega
      ·dsimp only
       rw[show (varV d a1).toNat-(i+1)=m by omega]
       exact hU'
      ·dsimp only
       omega
      ·dsimp only
       rw[hps,hput]
       rw[putL,if_neg hyp]
       exact tF
   ·rw[show (varV d a1).toNat-i=0 by omega]at hU'
    simp only[letG]at hU'
    subst hU'
    rw[if_neg (by simp)]at hg
    have hwr:IntKind.u64.wrap (((n+1:Nat):Int)-1)=n:=by
     rw[show ((n+1:Nat):Int)-1=n by omega]
     exact jhd (by omega)
    have hw2:=hwr
    repeat' first|refine tU ?_|refine qaa ?_ ?_|(refine tI ?_;intro hyp)|intro hyp0|exact tZ|omega
    exact⟨(n,c0,ps,crr),⟨by unfold Few;omega,hra',hp',hcl',hg⟩,Nat.lt_succ_self _,qab [0,1,2] [] rfl (by exact tF)⟩
 ·have hW:rnsG d a k more.length L=(jc2 d a,0,[]):=by rw[rnsG,if_pos e1]
  rw[hW,jaf e1,jag e1]
  have hw:=eq_false e1
  repeat' first|exact hr1|refine tU ?_|refine qac (qab [0,1,2] [] rfl ?_)|refine qaa ?_ ?_|(refine tI ?_;intro hyp)|intro hyp0|exact tZ|omega)
end
end
end Go.Proofs.YtienkkicehmchaaGreatDoor
