/- Texts of this claim, merged by a program of this claim: FQ2. -/
import Derived.Test.YtcfkfgkndncanaaGreatDoorMa36
namespace Go.Proofs.YtcfkfgkndncanaaGreatDoor
set_option linter.unusedVariables false
set_option linter.unusedSimpArgs false
section
open Go.RowKit
set_option maxRecDepth 100000
set_option maxHeartbeats 4000000
def kdv:List CV→KH→Prop:=fun args _=>match args with
 | [.agg (_::_ :: .vec _ _::_),_]=>True
 | _=>False
theorem jjW:(∀(a b v:CV) (t:ETy) (L:List t.T) (l:List CV) (h:KH),kdv [.agg (a::b :: .vec t L::l),v] h=True)∧(∀(a b v:CV) (i j e n c:Nat) (l:List CV) (h:KH),kdv [.agg (a::b :: .slice i j e n c::l),v] h=False):=⟨fun _ _ _ _ _ _ _=>rfl,fun _ _ _ _ _ _ _ _ _ _=>rfl⟩
theorem joo {P:Program}{E:Nat→Option (List CV)}{F:FuncId}{c:List CV→KH→Prop}{a b:Con}(ha:jfw P E F a) (hb:jfw P E F b):jfw P E F (conI c a b):=jiy (fun args h G r h' _=>ha args h G r h') (fun args h G r h' _=>hb args h G r h')
abbrev jop (k:Int) (r:Int) (L:List CD) (x:Int) (y:Int) (hd:Bool) (mo:Int) (ti:ByteArray) (ll:Nat) (v:Int) (m:Nat):List CV:=[.agg [.int .i64 k,.int .i64 r,.slice 0 0 6 m m,.int .i64 x,.int .i64 y,.bool hd,.int .u8 mo,.str ti,.slice 1 0 1 ll ll],.int .i64 v]
abbrev joq (k:Int) (r:Int) (L:List CD) (x:Int) (y:Int) (hd:Bool) (mo:Int) (ti:ByteArray) (ll:Nat) (v:Int) (m:Nat):KH:=[.seq .cell L,.dead]
abbrev jor (k:Int) (r:Int) (L:List CD) (x:Int) (y:Int) (hd:Bool) (mo:Int) (ti:ByteArray) (ll:Nat) (v:Int) (m:Nat):Prop×Res×KH:=((0≤k∧k≤100)∧(0≤v∧v≤1000)∧(v.toNat+1)*k.toNat≤m∧m≤1000000∧L.length=m,.ret (.slice 0 (v.toNat*k.toNat) 6 k.toNat k.toNat),[.seq .cell L,.dead])
noncomputable def msp_mrowMD:MSpec:=jcH (α:=Int×Int×(List CD)×Int×Int×Bool×Int×ByteArray×Nat×Int×Nat) (fun⟨k,r,L,x,y,hd,mo,ti,ll,v,m⟩=>(jop k r L x y hd mo ti ll v m,joq k r L x y hd mo ti ll v m)) fun⟨k,r,L,x,y,hd,mo,ti,ll,v,m⟩=>jor k r L x y hd mo ti ll v m
theorem jcf (k:Int) (r:Int) (L:List CD) (x:Int) (y:Int) (hd:Bool) (mo:Int) (ti:ByteArray) (ll:Nat) (v:Int) (m:Nat):msp_mrowMD (jop k r L x y hd mo ti ll v m) (joq k r L x y hd mo ti ll v m)=some (jor k r L x y hd mo ti ll v m):=jbn _ injM (k,r,L,x,y,hd,mo,ti,ll,v,m)
theorem jwN:MutF Tryz.prog E0 105 msp_mrowMD:=MutF.of fun⟨k,r,L,x,y,hd,mo,ti,ll,v,m⟩ hG=>TF.intro (V:=(VV [] GOk.nil 17 2)) jfR rfl rfl (by
 dsimp only[jop,joq,jor]at hG ⊢
 obtain⟨hk,hv,hl,hm,hL⟩:=hG
 obtain⟨k,rfl⟩:∃n:Nat,k=n:=⟨k.toNat,by omega⟩
 obtain⟨v,rfl⟩:∃n:Nat,v=n:=⟨v.toNat,by omega⟩
 simp only[Int.toNat_natCast]at hl ⊢
 have hmf:=jew hl
 have hm2:(v+1)*k=v*k+k:=by rw[Nat.add_mul];omega
 have hvk:v*k≤1000000:=by omega
 repeat' first|simp only[SA,MB,seval,rdB,tq0,tq1,tq2]|refine tT ?_|refine Cos.intro [0,1] [] rfl ?_|refine And.intro ?_ ?_|exact tC|(refine tI ?_;intro hyp)|intro hyp0|omega)
abbrev jos (k:Int) (r:Int) (L:List CD) (x:Int) (y:Int) (hd:Bool) (mo:Int) (ti:ByteArray) (ll:Nat) (v:Int):List CV:=[.agg [.int .i64 k,.int .i64 r,.vec .cell L,.int .i64 x,.int .i64 y,.bool hd,.int .u8 mo,.str ti,.slice 0 0 1 ll ll],.int .i64 v]
abbrev jot (k:Int) (r:Int) (L:List CD) (x:Int) (y:Int) (hd:Bool) (mo:Int) (ti:ByteArray) (ll:Nat) (v:Int):KH:=[.dead]
abbrev jou (k:Int) (r:Int) (L:List CD) (x:Int) (y:Int) (hd:Bool) (mo:Int) (ti:ByteArray) (ll:Nat) (v:Int):Prop×Res×KH:=((0≤k∧k≤100)∧(0≤v∧v≤1000)∧(v.toNat+1)*k.toNat≤L.length∧L.length≤1000000,.ret (.vec .cell (jbo L k.toNat v.toNat)),[.dead])
noncomputable def msp_mrowVD:MSpec:=jcH (α:=Int×Int×(List CD)×Int×Int×Bool×Int×ByteArray×Nat×Int) (fun⟨k,r,L,x,y,hd,mo,ti,ll,v⟩=>(jos k r L x y hd mo ti ll v,jot k r L x y hd mo ti ll v)) fun⟨k,r,L,x,y,hd,mo,ti,ll,v⟩=>jou k r L x y hd mo ti ll v
theorem jcg (k:Int) (r:Int) (L:List CD) (x:Int) (y:Int) (hd:Bool) (mo:Int) (ti:ByteArray) (ll:Nat) (v:Int):msp_mrowVD (jos k r L x y hd mo ti ll v) (jot k r L x y hd mo ti ll v)=some (jou k r L x y hd mo ti ll v):=jbn _ injM (k,r,L,x,y,hd,mo,ti,ll,v)
theorem jwO:MutF Tryz.prog E0 105 msp_mrowVD:=MutF.of fun⟨k,r,L,x,y,hd,mo,ti,ll,v⟩ hG=>TF.intro (V:=(VV [] GOk.nil 17 1)) jfR rfl rfl (by
 dsimp only[jos,jot,jou]at hG ⊢
 obtain⟨hk,hv,hl,hL⟩:=hG
 obtain⟨k,rfl⟩:∃n:Nat,k=n:=⟨k.toNat,by omega⟩
 obtain⟨v,rfl⟩:∃n:Nat,v=n:=⟨v.toNat,by omega⟩
 simp only[Int.toNat_natCast]at hl ⊢
 have hm:=jew hl
 have hm2:(v+1)*k=v*k+k:=by rw[Nat.add_mul];omega
 have hvk:v*k≤1000000:=by omega
 repeat' first|simp only[SA,MB,seval,rdB,tq0,tq1,tq2]|refine tT ?_|refine Cos.intro [0] [1,2,3,4,5,6,7,8,9] rfl ?_|refine And.intro ?_ ?_|exact tC|(refine tI ?_;intro hyp)|intro hyp0|omega
 rfl)
abbrev jgm (k:Int) (r:Int) (L:List CD) (x:Int) (y:Int) (hd:Bool) (mo:Int) (ti:ByteArray) (ll:Nat) (m:Int):List CV:=[.agg [.int .i64 k,.int .i64 r,.slice 0 0 6 L.length L.length,.int .i64 x,.int .i64 y,.bool hd,.int .u8 mo,.str ti,.slice 1 0 1 ll ll],.int .i64 m]
abbrev jgn (k:Int) (r:Int) (L:List CD) (x:Int) (y:Int) (hd:Bool) (mo:Int) (ti:ByteArray) (ll:Nat) (m:Int):KH:=[.seq .cell L,.dead]
abbrev jgo (k:Int) (r:Int) (L:List CD) (x:Int) (y:Int) (hd:Bool) (mo:Int) (ti:ByteArray) (ll:Nat) (m:Int):Prop×Res×KH:=(jcI k r L=true∧CWs L∧(-1000000≤m∧m≤1000000),.ret (.slice 2 0 6 (jcl (jbv L k.toNat r.toNat) m).flatten.length (jcl (jbv L k.toNat r.toNat) m).flatten.length),[.seq .cell L,.dead,.seq .cell (jcl (jbv L k.toNat r.toNat) m).flatten])
noncomputable def msp_mscrolledD:MSpec:=jcH (α:=Int×Int×(List CD)×Int×Int×Bool×Int×ByteArray×Nat×Int) (fun⟨k,r,L,x,y,hd,mo,ti,ll,m⟩=>(jgm k r L x y hd mo ti ll m,jgn k r L x y hd mo ti ll m)) fun⟨k,r,L,x,y,hd,mo,ti,ll,m⟩=>jgo k r L x y hd mo ti ll m
theorem jbH (k:Int) (r:Int) (L:List CD) (x:Int) (y:Int) (hd:Bool) (mo:Int) (ti:ByteArray) (ll:Nat) (m:Int):msp_mscrolledD (jgm k r L x y hd mo ti ll m) (jgn k r L x y hd mo ti ll m)=some (jgo k r L x y hd mo ti ll m):=jbn _ injM (k,r,L,x,y,hd,mo,ti,ll,m)
theorem jov:MutF Tryz.prog E0 65 msp_mscrolledD:=MutF.of fun⟨k,r,L,x,y,hd,mo,ti,ll,m⟩ hG=>TF.intro (V:=(VV [(103,conT [.agg [.any,.any,.sl .cell],.any,.any,.any,.any] sp_gscroll)] (.cons (jaa jfM) (Fresh.soundT jtw) GOk.nil) 21 2)) jd1 rfl rfl (by
 dsimp only[jgm,jgn,jgo]at hG ⊢
 obtain⟨hg,hc,hm⟩:=hG
 have hf:=ji2 hg
 have hsa:=jqZ (L:=L) (k:=k.toNat) (r:=r.toNat) (by omega) m
 have hw:(r-1).toNat=r.toNat-1:=by omega
 have hw2:jdz (jbv L k.toNat r.toNat) 0 (r.toNat-1) m { fg:=0,bg:=0,attrs:=0,link:=0 }=jcl (jbv L k.toNat r.toNat) m:=hsa
 repeat' first|exact hg|exact jz8|exact hc|simp only[SA,MB,seval,rdB,jia,tq0,tq1,tq2]|simp only[hw]|simp only[hw2]|refine tT ?_|refine And.intro ?_ ?_|exact tC|(refine tI ?_;intro hyp)|intro hyp0|omega
 exact Cos.intro [0,1,4] [] rfl (by (simp only[SA,MB,seval,rdB,jia,tq0,tq1,tq2]<;>exact tE)))
abbrev jeg (k:Int) (r:Int) (L:List CD) (x:Int) (y:Int) (hd:Bool) (mo:Int) (ti:ByteArray) (ll:Nat) (more:List ByteArray) (d:List Int) (a:Nat):List CV:=[.ptr 0 0 0]
abbrev jeh (k:Int) (r:Int) (L:List CD) (x:Int) (y:Int) (hd:Bool) (mo:Int) (ti:ByteArray) (ll:Nat) (more:List ByteArray) (d:List Int) (a:Nat):KH:=[RBd 2 3 4 k r L.length x y hd mo ti ll more.length,rdr d a 0,.seq .cell L,.dead,.seq .str more]
abbrev jjk (k:Int) (r:Int) (L:List CD) (x:Int) (y:Int) (hd:Bool) (mo:Int) (ti:ByteArray) (ll:Nat) (more:List ByteArray) (d:List Int) (a:Nat):Prop×Res×KH:=(RdOk d a∧Szd k r L,.ret (.tup []),[RBd 6 3 5 k r L.length x y hd mo ti ll more.length,rdr d (cpsG d a k.toNat r.toNat L).2.1 0,.dead,.dead,.dead,.seq .str more,.seq .cell (cpsG d a k.toNat r.toNat L).2.2])
noncomputable def jgp:MSpec:=jcH (α:=Int×Int×(List CD)×Int×Int×Bool×Int×ByteArray×Nat×(List ByteArray)×(List Int)×Nat) (fun⟨k,r,L,x,y,hd,mo,ti,ll,more,d,a⟩=>(jeg k r L x y hd mo ti ll more d a,jeh k r L x y hd mo ti ll more d a)) fun⟨k,r,L,x,y,hd,mo,ti,ll,more,d,a⟩=>jjk k r L x y hd mo ti ll more d a
noncomputable def esp_rcopiesD:ESpec:=jgW (α:=Int×Int×(List CD)×Int×Int×Bool×Int×ByteArray×Nat×(List ByteArray)×(List Int)×Nat) (fun⟨k,r,L,x,y,hd,mo,ti,ll,more,d,a⟩=>(jeg k r L x y hd mo ti ll more d a,jeh k r L x y hd mo ti ll more d a)) fun⟨k,r,L,x,y,hd,mo,ti,ll,more,d,a⟩=>(cpsG d a k.toNat r.toNat L).1
theorem jgq:InjM (α:=Int×Int×(List CD)×Int×Int×Bool×Int×ByteArray×Nat×(List ByteArray)×(List Int)×Nat) (fun⟨k,r,L,x,y,hd,mo,ti,ll,more,d,a⟩=>(jeg k r L x y hd mo ti ll more d a,jeh k r L x y hd mo ti ll more d a)):=injM
theorem jbX (k:Int) (r:Int) (L:List CD) (x:Int) (y:Int) (hd:Bool) (mo:Int) (ti:ByteArray) (ll:Nat) (more:List ByteArray) (d:List Int) (a:Nat):jgp (jeg k r L x y hd mo ti ll more d a) (jeh k r L x y hd mo ti ll more d a)=some (jjk k r L x y hd mo ti ll more d a):=jbn _ jgq (k,r,L,x,y,hd,mo,ti,ll,more,d,a)
theorem jbY (k:Int) (r:Int) (L:List CD) (x:Int) (y:Int) (hd:Bool) (mo:Int) (ti:ByteArray) (ll:Nat) (more:List ByteArray) (d:List Int) (a:Nat):esp_rcopiesD (jeg k r L x y hd mo ti ll more d a) (jeh k r L x y hd mo ti ll more d a)=(cpsG d a k.toNat r.toNat L).1:=jcJ _ jgq (k,r,L,x,y,hd,mo,ti,ll,more,d,a)
theorem jrB:MutP Tryz.prog E0 66 jgp esp_rcopiesD:=MutP.of jgq fun⟨k,r,L,x,y,hd,mo,ti,ll,more,d,a⟩ hG=>TF.intro (V:=(VV [(24,conT [.sl .cell] sp_clone),(104,conP jih esp_someD),(62,conP jfo esp_uptoD),(105,(conI kdv (conM msp_mrowVD) (conM msp_mrowMD)))] (.cons (jaa jbF) (Fresh.soundT jh1) (.cons (jaa jcV) (MutP.soundP jsO) (.cons (jaa jbs) (MutP.soundP jkf) (.cons (jaa jfR) (joo (MutF.soundM jwO) (MutF.soundM jwN)) GOk.nil)))) 53 5)) jds rfl rfl (by
 dsimp only[jeg,jeh,jjk]at hG ⊢
 obtain⟨hr0,hz⟩:=hG
 have hle:=hz.le
 obtain⟨hk,hr,hl⟩:=hz
 have hr1:=hr0
 obtain⟨h1,h2,h3⟩:=hr0
 obtain⟨k,rfl⟩:∃n:Nat,k=n:=⟨k.toNat,by omega⟩
 obtain⟨r,rfl⟩:∃n:Nat,r=n:=⟨r.toNat,by omega⟩
 simp only[Int.toNat_natCast]at hl ⊢
 have hl6:L.length≤1000000:=by omega
 have hv:=jar h3 a
 by_cases e1:jdr d a=0
 ·have hW:cpsG d a k r L=cpG d k r L (varV d a).toNat (a+varU d a) 0 L:=by rw[cpsG,if_neg (by simp[e1])]
  rw[hW]
  generalize hWg:cpG d k r L (varV d a).toNat (a+varU d a) 0 L=W
  have hw:=e1
  repeat' first|exact hr1|exact hl6|simp only[PB,SA,MB,seval,rdB,jaj,jaN,jaO,jam,jan,jcf,jcg,jjW,tq0,tq1,tq2]|simp only[hw]|simp only[hw2]|refine tT ?_|refine And.intro ?_ ?_|exact tC|(refine tI ?_;intro hyp)|intro hyp0|omega
  have hr2:RdOk d (a+varU d a):=⟨jbS h1,h2,h3⟩
  have hn0:((varV d a).toNat:Int)=varV d a:=by omega
  have hn1:((varV d a).toNat:Int)<18446744073709551616:=by omega
  refine T.loop (fun q:Nat×Nat×Nat×List CD=>⟨[(0,.ptr 0 0 0),(2,.ptr 5 0 0),(3,.int .i64 q.2.2.1),(4,.int .u64 q.1)],[RBd 2 3 4 k r q.2.2.2.length x y hd mo ti ll more.length,rdr d q.2.1 0,.seq .cell q.2.2.2,.dead,.seq .str more,.box [.int .i64 k,.int .i64 r,.vec .cell L,.int .i64 x,.int .i64 y,.bool hd,.int .u8 mo,.str ti,.slice 3 0 1 ll ll]]⟩) (fun q=>Few q.1∧RdOk d q.2.1∧q.2.2.1≤r∧q.2.2.2.length=L.length∧cpG d k r L q.1 q.2.1 q.2.2.1 q.2.2.2=W) (fun q=>q.1) ((varV d a).toNat,a+varU d a,0,L) ⟨hn1,hr2,Nat.zero_le _,rfl,hWg⟩ (Cos.intro [0,1,2,3,4,5] [6] rfl (by simp only[hn0];(simp only[PB,SA,MB,seval,rdB,jaj,jaN,jaO,jam,jan,jcf,jcg,jjW,tq0,tq1,tq2]<;>exact tE))) (fun q hq=>?_)
  obtain⟨n,a',pos,cur⟩:=q
  obtain⟨hn,hr',hp,hcl,hg⟩:=hq
  dsimp only at hn hr' hp hcl hg
  have hn':(n:Int)<18446744073709551616:=hn
  have hr3:=hr'
  obtain⟨g1,g2,g3⟩:=hr'
  have gv:=jar g3 a'
  have hr4:RdOk d (a'+varU d a'):=⟨jbS g1,g2,g3⟩
  have gv2:=jar g3 (a'+varU d a')
  have hr5:RdOk d (a'+varU d a'+varU d (a'+varU d a')):=⟨jbS (jbS g1),g2,g3⟩
  cases n with
  | zero =>
   simp only[cpG]at hg
   subst hg
   rw[jcy rfl,jcz rfl]
   rw[←hcl]
   repeat' first|simp only[PB,SA,MB,seval,rdB,jaj,jaN,jaO,jam,jan,jcf,jcg,jjW,tq0,tq1,tq2]|simp only[hw]|simp only[hw2]|refine tT ?_|refine Cos.intro [0,1,2,3,4,4,2] [] rfl ?_|refine And.intro ?_ ?_|exact tC|(refine tI ?_;intro hyp)|intro hyp0|omega
  | succ n =>
   simp only[cpG]at hg
   by_cases t1:upE d a' ((r:Int)-1-pos)=0
   ·have u1:=jbe t1
    rw[if_neg (by simp[t1])]at hg
    have z1:((pos:Int)+varV d a').toNat+1≤r:=by omega
    have q1:=jwm (k:=k) z1
    rw[←hl,←hcl]at q1
    by_cases t2:upE d (a'+varU d a') ((r:Int)-1)=0
    ·have u2:=jbe t2
     rw[if_neg (by simp[t2])]at hg
     have z2:(varV d (a'+varU d a')).toNat+1≤r:=by omega
     have q2:=jwm (k:=k) z2
     rw[←hl]at q2
     have q3:((pos:Int)+varV d a').toNat*k+k≤cur.length:=by
      rw[Nat.add_mul,Nat.one_mul]at q1
      exact q1
     have z3:((pos:Int)+varV d a').toNat=pos+(varV d a').toNat:=by omega
     have hrl:(jbo L k (varV d (a'+varU d a')).toNat).length=k:=by
      rw[Nat.add_mul,Nat.one_mul]at q2
      simp only[jbo,List.length_take,List.length_drop]
      omega
     have hput:cur.take (((pos:Int)+varV d a').toNat*k)++(jbo L k (varV d (a'+varU d a')).toNat).take (min (jbo L k (varV d (a'+varU d a')).toNat).length k)++cur.drop (((pos:Int)+varV d a').toNat*k+min (jbo L k (varV d (a'+varU d a')).toNat).length k)=jeQ cur ((pos+(varV d a').toNat)*k) (jbo L k (varV d (a'+varU d a')).toNat):=by
      rw[hrl,Nat.min_self,jeQ,hrl,z3]
      congr 2
      rw[List.take_of_length_le (by omega)]
     have hpl:(jeQ cur ((pos+(varV d a').toNat)*k) (jbo L k (varV d (a'+varU d a')).toNat)).length=cur.length:=jmI (by rw[hrl,←z3];exact q3)
     have hwr:IntKind.u64.wrap (((n+1:Nat):Int)-1)=n:=by
      rw[show ((n+1:Nat):Int)-1=n by omega]
      exact jmb (by omega)
     have hps:(pos:Int)+varV d a'+1=((pos+(varV d a').toNat+1:Nat):Int):=by omega
     have hw2:=And.intro t1 t2
     repeat' first|exact hr3|exact hr4|exact q1|exact q2|exact q3|simp only[PB,SA,MB,seval,rdB,jaj,jaN,jaO,jam,jan,jcf,jcg,jjW,tq0,tq1,tq2]|simp only[hw]|simp only[hw2]|refine tT ?_|refine And.intro ?_ ?_|exact tC|(refine tI ?_;intro hyp)|intro hyp0|omega
     refine⟨(n,a'+varU d a'+varU d (a'+varU d a'),pos+(varV d a').toNat+1,jeQ cur ((pos+(varV d a').toNat)*k) (jbo L k (varV d (a'+varU d a')).toNat)),⟨?_,hr5,?_,hpl.trans hcl,hg⟩,Nat.lt_succ_self _,Cos.intro [0,1,2,3,4,5] [] rfl ?_⟩
     ·unfold Few
      dsimp only
      omega
     ·dsimp only
      omega
     ·dsimp only
      rw[hput,hwr,hps,hpl]
      (simp only[PB,SA,MB,seval,rdB,jaj,jaN,jaO,jam,jan,jcf,jcg,jjW,tq0,tq1,tq2]<;>exact tE)
    ·rw[if_pos t2]at hg
     subst hg
     rw[jbj t2,jbk t2]
     have hw2:=And.intro t1 (eq_false t2)
     repeat' first|exact hr3|exact hr4|exact q1|simp only[PB,SA,MB,seval,rdB,jaj,jaN,jaO,jam,jan,jcf,jcg,jjW,tq0,tq1,tq2]|simp only[hw]|simp only[hw2]|refine tT ?_|refine Cos.err (Cos.intro [0,1,2,3,4] [] rfl ?_)|refine And.intro ?_ ?_|exact tC|(refine tI ?_;intro hyp)|intro hyp0|omega
   ·rw[if_pos t1]at hg
    subst hg
    rw[jbj t1,jbk t1]
    have hw2:=eq_false t1
    repeat' first|exact hr3|simp only[PB,SA,MB,seval,rdB,jaj,jaN,jaO,jam,jan,jcf,jcg,jjW,tq0,tq1,tq2]|simp only[hw]|simp only[hw2]|refine tT ?_|refine Cos.err (Cos.intro [0,1,2,3,4] [] rfl ?_)|refine And.intro ?_ ?_|exact tC|(refine tI ?_;intro hyp)|intro hyp0|omega
 ·have hW:cpsG d a k r L=(jdr d a,0,[]):=by rw[cpsG,if_pos e1]
  rw[hW,jbj e1,jbk e1]
  have hw:=eq_false e1
  repeat' first|exact hr1|exact hl6|simp only[PB,SA,MB,seval,rdB,jaj,jaN,jaO,jam,jan,jcf,jcg,jjW,tq0,tq1,tq2]|simp only[hw]|simp only[hw2]|refine tT ?_|refine Cos.err (Cos.intro [0,1,2,3,4] [] rfl ?_)|refine And.intro ?_ ?_|exact tC|(refine tI ?_;intro hyp)|intro hyp0|omega)
abbrev jgK (k:Int) (r:Int) (L:List CD) (x:Int) (y:Int) (hd:Bool) (mo:Int) (ti:ByteArray) (ll:Nat) (more:List ByteArray) (d:List Int) (a:Nat):List CV:=[.ptr 0 0 0]
abbrev jgL (k:Int) (r:Int) (L:List CD) (x:Int) (y:Int) (hd:Bool) (mo:Int) (ti:ByteArray) (ll:Nat) (more:List ByteArray) (d:List Int) (a:Nat):KH:=[RBd 2 3 4 k r L.length x y hd mo ti ll more.length,rdr d a 0,.seq .cell L,.dead,.seq .str more]
abbrev jow (k:Int) (r:Int) (L:List CD) (x:Int) (y:Int) (hd:Bool) (mo:Int) (ti:ByteArray) (ll:Nat) (more:List ByteArray) (d:List Int) (a:Nat):Prop×Res×KH:=(RdOk d a∧Szd k r L∧more.length≤16,.ret (.tup []),[RBd 6 3 5 k r L.length x y hd mo ti ll more.length,rdr d (rnsG d a k.toNat more.length L).2.1 0,.dead,.dead,.dead,.seq .str more,.seq .cell (rnsG d a k.toNat more.length L).2.2])
noncomputable def jjl:MSpec:=jcH (α:=Int×Int×(List CD)×Int×Int×Bool×Int×ByteArray×Nat×(List ByteArray)×(List Int)×Nat) (fun⟨k,r,L,x,y,hd,mo,ti,ll,more,d,a⟩=>(jgK k r L x y hd mo ti ll more d a,jgL k r L x y hd mo ti ll more d a)) fun⟨k,r,L,x,y,hd,mo,ti,ll,more,d,a⟩=>jow k r L x y hd mo ti ll more d a
noncomputable def esp_rrunsD:ESpec:=jgW (α:=Int×Int×(List CD)×Int×Int×Bool×Int×ByteArray×Nat×(List ByteArray)×(List Int)×Nat) (fun⟨k,r,L,x,y,hd,mo,ti,ll,more,d,a⟩=>(jgK k r L x y hd mo ti ll more d a,jgL k r L x y hd mo ti ll more d a)) fun⟨k,r,L,x,y,hd,mo,ti,ll,more,d,a⟩=>(rnsG d a k.toNat more.length L).1
theorem jjm:InjM (α:=Int×Int×(List CD)×Int×Int×Bool×Int×ByteArray×Nat×(List ByteArray)×(List Int)×Nat) (fun⟨k,r,L,x,y,hd,mo,ti,ll,more,d,a⟩=>(jgK k r L x y hd mo ti ll more d a,jgL k r L x y hd mo ti ll more d a)):=injM
theorem jch (k:Int) (r:Int) (L:List CD) (x:Int) (y:Int) (hd:Bool) (mo:Int) (ti:ByteArray) (ll:Nat) (more:List ByteArray) (d:List Int) (a:Nat):jjl (jgK k r L x y hd mo ti ll more d a) (jgL k r L x y hd mo ti ll more d a)=some (jow k r L x y hd mo ti ll more d a):=jbn _ jjm (k,r,L,x,y,hd,mo,ti,ll,more,d,a)
theorem jci (k:Int) (r:Int) (L:List CD) (x:Int) (y:Int) (hd:Bool) (mo:Int) (ti:ByteArray) (ll:Nat) (more:List ByteArray) (d:List Int) (a:Nat):esp_rrunsD (jgK k r L x y hd mo ti ll more d a) (jgL k r L x y hd mo ti ll more d a)=(rnsG d a k.toNat more.length L).1:=jcJ _ jjm (k,r,L,x,y,hd,mo,ti,ll,more,d,a)
theorem jwP:MutP Tryz.prog E0 67 jjl esp_rrunsD:=MutP.of jjm fun⟨k,r,L,x,y,hd,mo,ti,ll,more,d,a⟩ hG=>TF.intro (V:=(VV [(104,conP jih esp_someD),(62,conP jfo esp_uptoD),(106,conP jjg esp_rdcolD),(59,conF [.any] sp_width)] (.cons (jaa jcV) (MutP.soundP jsO) (.cons (jaa jbs) (MutP.soundP jkf) (.cons (jaa jdK) (MutP.soundP jwM) (.cons (jaa jeo) (Fresh.soundF jny) GOk.nil)))) 119 5)) jd5 rfl rfl (by
 dsimp only[jgK,jgL,jow]at hG ⊢
 obtain⟨hr0,hz,hmo⟩:=hG
 have hle:=hz.le
 obtain⟨hk,hr,hl⟩:=hz
 have hr1:=hr0
 obtain⟨h1,h2,h3⟩:=hr0
 obtain⟨k,rfl⟩:∃n:Nat,k=n:=⟨k.toNat,by omega⟩
 obtain⟨r,rfl⟩:∃n:Nat,r=n:=⟨r.toNat,by omega⟩
 simp only[Int.toNat_natCast]at hl ⊢
 have hv:=jar h3 a
 by_cases e1:jdr d a=0
 ·have hW:rnsG d a k more.length L=rnG d k more.length (varV d a).toNat (a+varU d a) 0 L:=by rw[rnsG,if_neg (by simp[e1])]
  rw[hW]
  generalize hWg:rnG d k more.length (varV d a).toNat (a+varU d a) 0 L=W
  have hw:=e1
  repeat' first|exact hr1|simp only[PB,SA,MB,seval,rdB,jaN,jaO,jam,jan,ja7,ja8,ja3,tq0,tq1,tq2]|simp only[hw]|simp only[hw2]|simp only[hw3]|simp only[hw4]|refine tT ?_|refine And.intro ?_ ?_|exact tC|(refine tI ?_;intro hyp)|intro hyp0|omega
  have hr2:RdOk d (a+varU d a):=⟨jbS h1,h2,h3⟩
  have hn0:((varV d a).toNat:Int)=varV d a:=by omega
  have hn1:((varV d a).toNat:Int)<18446744073709551616:=by omega
  refine T.loop (fun q:Nat×Nat×Nat×List CD=>⟨[(0,.ptr 0 0 0),(2,.int .i64 q.2.2.1),(3,.int .i64 q.2.2.2.length),(4,.int .u64 q.1)],[RBd 2 3 4 k r q.2.2.2.length x y hd mo ti ll more.length,rdr d q.2.1 0,.seq .cell q.2.2.2,.dead,.seq .str more]⟩) (fun q=>Few q.1∧RdOk d q.2.1∧q.2.2.1≤q.2.2.2.length∧q.2.2.2.length=L.length∧rnG d k more.length q.1 q.2.1 q.2.2.1 q.2.2.2=W) (fun q=>q.1) ((varV d a).toNat,a+varU d a,0,L) ⟨hn1,hr2,Nat.zero_le _,rfl,hWg⟩ (Cos.intro [0,1,2,3,4] [] rfl (by simp only[hn0];(simp only[PB,SA,MB,seval,rdB,jaN,jaO,jam,jan,ja7,ja8,ja3,tq0,tq1,tq2]<;>exact tE))) (fun q hq=>?_)
  obtain⟨n,a0,pos,cur⟩:=q
  obtain⟨hn,hra,hp,hcl,hg⟩:=hq
  dsimp only at hn hra hp hcl hg
  have hn':(n:Int)<18446744073709551616:=hn
  cases n with
  | zero =>
   simp only[rnG]at hg
   subst hg
   rw[jcy rfl,jcz rfl,←hcl]
   repeat' first|simp only[PB,SA,MB,seval,rdB,jaN,jaO,jam,jan,ja7,ja8,ja3,tq0,tq1,tq2]|simp only[hw]|simp only[hw2]|simp only[hw3]|simp only[hw4]|refine tT ?_|refine Cos.intro [0,1,2,3,4,4,2] [] rfl ?_|refine And.intro ?_ ?_|exact tC|(refine tI ?_;intro hyp)|intro hyp0|omega
  | succ n =>
   have g3:=hra.2.2
   obtain⟨a1,b1⟩:∃a1,a0+varU d a0=a1:=⟨_,rfl⟩
   obtain⟨a2,b2⟩:∃a2,a1+varU d a1=a2:=⟨_,rfl⟩
   obtain⟨a3,b3⟩:∃a3,a2+varU d a2=a3:=⟨_,rfl⟩
   obtain⟨a4,b4⟩:∃a4,a3+varU d a3=a4:=⟨_,rfl⟩
   obtain⟨a5,b5⟩:∃a5,a4+varU d a4=a5:=⟨_,rfl⟩
   obtain⟨a6,b6⟩:∃a6,a5+varU d a5=a6:=⟨_,rfl⟩
   have hr1:=jdQ hra b1
   have hr2:=jdQ hr1 b2
   have hr3:=jdQ hr2 b3
   have hr4:=jdQ hr3 b4
   have hr5:=jdQ hr4 b5
   have hr6:=jdQ hr5 b6
   have v0:=jar g3 a0
   have v1:=jar g3 a1
   have v2:=jar g3 a2
   have v3:=jar g3 a3
   have v4:=jar g3 a4
   have v5:=jar g3 a5
   have hp1:((pos+(varV d a0).toNat:Nat):Int)=pos+varV d a0:=by omega
   by_cases t1:upE d a0 ((cur.length:Int)-pos)=0
   case neg =>
    have hH:hdG d a0 pos cur.length more.length=jc3 (upE d a0 ((cur.length:Int)-pos)):=by simp only[hdG,t1,hp1,b1,b2,b3,b4,b5,ne_eq,not_true_eq_false,not_false_eq_true,if_true,if_false]
    rw[jeR hH t1]at hg
    subst hg
    rw[jbj t1,jbk t1]
    have hw2:=And.intro (b1) (And.intro (b2) (And.intro (b3) (And.intro (b4) (And.intro (b5) (And.intro (b6) (eq_false t1))))))
    repeat' first|exact hra|simp only[PB,SA,MB,seval,rdB,jaN,jaO,jam,jan,ja7,ja8,ja3,tq0,tq1,tq2]|simp only[hw]|simp only[hw2]|simp only[hw3]|simp only[hw4]|refine tT ?_|refine Cos.err (Cos.intro [0,1,2,3,4] [] rfl ?_)|refine And.intro ?_ ?_|exact tC|(refine tI ?_;intro hyp)|intro hyp0|omega
   have u1:=jbe t1
   by_cases t2:upE d a1 ((cur.length:Int)-(pos+varV d a0))=0
   case neg =>
    have hH:hdG d a0 pos cur.length more.length=jc3 (upE d a1 ((cur.length:Int)-(pos+varV d a0))):=by simp only[hdG,t1,t2,hp1,b1,b2,b3,b4,b5,ne_eq,not_true_eq_false,not_false_eq_true,if_true,if_false]
    rw[jeR hH t2]at hg
    subst hg
    rw[jbj t2,jbk t2]
    have hw2:=And.intro (b1) (And.intro (b2) (And.intro (b3) (And.intro (b4) (And.intro (b5) (And.intro (b6) (And.intro (t1) (eq_false t2)))))))
    repeat' first|exact hra|exact hr1|simp only[PB,SA,MB,seval,rdB,jaN,jaO,jam,jan,ja7,ja8,ja3,tq0,tq1,tq2]|simp only[hw]|simp only[hw2]|simp only[hw3]|simp only[hw4]|refine tT ?_|refine Cos.err (Cos.intro [0,1,2,3,4] [] rfl ?_)|refine And.intro ?_ ?_|exact tC|(refine tI ?_;intro hyp)|intro hyp0|omega
   have u2:=jbe t2
   by_cases t3:varV d a1=0
   case pos =>
    have hH:hdG d a0 pos cur.length more.length=jc3 (3):=by simp only[hdG,t1,t2,t3,hp1,b1,b2,b3,b4,b5,ne_eq,not_true_eq_false,not_false_eq_true,if_true,if_false]
    rw[jeR hH (by decide)]at hg
    subst hg
    rw[jbj (by decide),jbk (by decide)]
    have hw2:=And.intro (b1) (And.intro (b2) (And.intro (b3) (And.intro (b4) (And.intro (b5) (And.intro (b6) (And.intro (t1) (And.intro (t2) (t3))))))))
    repeat' first|exact hra|exact hr1|simp only[PB,SA,MB,seval,rdB,jaN,jaO,jam,jan,ja7,ja8,ja3,tq0,tq1,tq2]|simp only[hw]|simp only[hw2]|simp only[hw3]|simp only[hw4]|refine tT ?_|refine Cos.err (Cos.intro [0,1,2,3,4] [] rfl ?_)|refine And.intro ?_ ?_|exact tC|(refine tI ?_;intro hyp)|intro hyp0|omega
   by_cases t4:colE d a2=0
   case neg =>
    have hH:hdG d a0 pos cur.length more.length=jc3 (colE d a2):=by simp only[hdG,t1,t2,t3,t4,hp1,b1,b2,b3,b4,b5,ne_eq,not_true_eq_false,not_false_eq_true,if_true,if_false]
    rw[jeR hH t4]at hg
    subst hg
    rw[jbj t4,jbk t4]
    have hw2:=And.intro (b1) (And.intro (b2) (And.intro (b3) (And.intro (b4) (And.intro (b5) (And.intro (b6) (And.intro (t1) (And.intro (t2) (And.intro (eq_false t3) (eq_false t4)))))))))
    repeat' first|exact hra|exact hr1|exact hr2|simp only[PB,SA,MB,seval,rdB,jaN,jaO,jam,jan,ja7,ja8,ja3,tq0,tq1,tq2]|simp only[hw]|simp only[hw2]|simp only[hw3]|simp only[hw4]|refine tT ?_|refine Cos.err (Cos.intro [0,1,2,3,4] [] rfl ?_)|refine And.intro ?_ ?_|exact tC|(refine tI ?_;intro hyp)|intro hyp0|omega
   have u4:=jbe (jsD t4)
   by_cases t5:colE d a3=0
   case neg =>
    have hH:hdG d a0 pos cur.length more.length=jc3 (colE d a3):=by simp only[hdG,t1,t2,t3,t4,t5,hp1,b1,b2,b3,b4,b5,ne_eq,not_true_eq_false,not_false_eq_true,if_true,if_false]
    rw[jeR hH t5]at hg
    subst hg
    rw[jbj t5,jbk t5]
    have hw2:=And.intro (b1) (And.intro (b2) (And.intro (b3) (And.intro (b4) (And.intro (b5) (And.intro (b6) (And.intro (t1) (And.intro (t2) (And.intro (eq_false t3) (And.intro (t4) (eq_false t5))))))))))
    repeat' first|exact hra|exact hr1|exact hr2|exact hr3|simp only[PB,SA,MB,seval,rdB,jaN,jaO,jam,jan,ja7,ja8,ja3,tq0,tq1,tq2]|simp only[hw]|simp only[hw2]|simp only[hw3]|simp only[hw4]|refine tT ?_|refine Cos.err (Cos.intro [0,1,2,3,4] [] rfl ?_)|refine And.intro ?_ ?_|exact tC|(refine tI ?_;intro hyp)|intro hyp0|omega
   have u5:=jbe (jsD t5)
   by_cases t6:upE d a4 255=0
   case neg =>
    have hH:hdG d a0 pos cur.length more.length=jc3 (upE d a4 255):=by simp only[hdG,t1,t2,t3,t4,t5,t6,hp1,b1,b2,b3,b4,b5,ne_eq,not_true_eq_false,not_false_eq_true,if_true,if_false]
    rw[jeR hH t6]at hg
    subst hg
    rw[jbj t6,jbk t6]
    have hw2:=And.intro (b1) (And.intro (b2) (And.intro (b3) (And.intro (b4) (And.intro (b5) (And.intro (b6) (And.intro (t1) (And.intro (t2) (And.intro (eq_false t3) (And.intro (t4) (And.intro (t5) (eq_false t6)))))))))))
    repeat' first|exact hra|exact hr1|exact hr2|exact hr3|exact hr4|simp only[PB,SA,MB,seval,rdB,jaN,jaO,jam,jan,ja7,ja8,ja3,tq0,tq1,tq2]|simp only[hw]|simp only[hw2]|simp only[hw3]|simp only[hw4]|refine tT ?_|refine Cos.err (Cos.intro [0,1,2,3,4] [] rfl ?_)|refine And.intro ?_ ?_|exact tC|(refine tI ?_;intro hyp)|intro hyp0|omega
   have u6:=jbe t6
   by_cases t7:upE d a5 more.length=0
   case neg =>
    have hH:hdG d a0 pos cur.length more.length=jc3 (upE d a5 more.length):=by simp only[hdG,t1,t2,t3,t4,t5,t6,t7,hp1,b1,b2,b3,b4,b5,ne_eq,not_true_eq_false,not_false_eq_true,if_true,if_false]
    rw[jeR hH t7]at hg
    subst hg
    rw[jbj t7,jbk t7]
    have hw2:=And.intro (b1) (And.intro (b2) (And.intro (b3) (And.intro (b4) (And.intro (b5) (And.intro (b6) (And.intro (t1) (And.intro (t2) (And.intro (eq_false t3) (And.intro (t4) (And.intro (t5) (And.intro (t6) (eq_false t7))))))))))))
    repeat' first|exact hra|exact hr1|exact hr2|exact hr3|exact hr4|exact hr5|simp only[PB,SA,MB,seval,rdB,jaN,jaO,jam,jan,ja7,ja8,ja3,tq0,tq1,tq2]|simp only[hw]|simp only[hw2]|simp only[hw3]|simp only[hw4]|refine tT ?_|refine Cos.err (Cos.intro [0,1,2,3,4] [] rfl ?_)|refine And.intro ?_ ?_|exact tC|(refine tI ?_;intro hyp)|intro hyp0|omega
   have u7:=jbe t7
   have hH:hdG d a0 pos cur.length more.length=⟨0,a6,pos+(varV d a0).toNat,(varV d a1).toNat,⟨varV d a2,varV d a3,varV d a4,varV d a5⟩⟩:=by simp only[hdG,t1,t2,t3,t4,t5,t6,t7,hp1,b1,b2,b3,b4,b5,b6,ne_eq,not_true_eq_false,not_false_eq_true,if_true,if_false]
   obtain⟨U,hU⟩:∃U,letG d k ⟨varV d a2,varV d a3,varV d a4,varV d a5⟩ (varV d a1).toNat a6 (pos+(varV d a0).toNat) cur=U:=⟨_,rfl⟩
   rw[jAZ hH hU]at hg
   have hw2:=And.intro (b1) (And.intro (b2) (And.intro (b3) (And.intro (b4) (And.intro (b5) (And.intro (b6) (And.intro (t1) (And.intro (t2) (And.intro (eq_false t3) (And.intro (t4) (And.intro (t5) (And.intro (t6) (t7))))))))))))
   have hw3:=And.intro (w_u8 (n:=varV d a4) (by omega)) (jnc (n:=varV d a5) (by omega))
   repeat' first|exact hra|exact hr1|exact hr2|exact hr3|exact hr4|exact hr5|simp only[PB,SA,MB,seval,rdB,jaN,jaO,jam,jan,ja7,ja8,ja3,tq0,tq1,tq2]|simp only[hw]|simp only[hw2]|simp only[hw3]|simp only[hw4]|refine tT ?_|refine And.intro ?_ ?_|exact tC|(refine tI ?_;intro hyp)|intro hyp0|omega
   have hN:((varV d a1).toNat:Int)=varV d a1:=by omega
   have hp0:pos+(varV d a0).toNat≤cur.length:=by omega
   refine T.loop (fun q:Nat×Nat×Nat×List CD=>⟨[(0,.ptr 0 0 0),(2,.int .i64 q.2.2.1),(3,.int .i64 q.2.2.2.length),(4,.int .u64 ((n+1:Nat):Int)),(6,.ptr 5 0 0),(52,.int .i64 (varV d a1)),(53,.int .i64 q.1)],[RBd 2 3 4 k r q.2.2.2.length x y hd mo ti ll more.length,rdr d q.2.1 0,.seq .cell q.2.2.2,.dead,.seq .str more,.box [.int .u32 (varV d a2),.int .u32 (varV d a3),.int .u8 (varV d a4),.int .u16 (varV d a5)]]⟩) (fun q=>q.1≤(varV d a1).toNat∧RdOk d q.2.1∧q.2.2.1≤q.2.2.2.length∧q.2.2.2.length=L.length∧letG d k ⟨varV d a2,varV d a3,varV d a4,varV d a5⟩ ((varV d a1).toNat-q.1) q.2.1 q.2.2.1 q.2.2.2=U) (fun q=>(varV d a1).toNat-q.1) (0,a6,pos+(varV d a0).toNat,cur) ⟨Nat.zero_le _,hr6,hp0,hcl,hU⟩ (Cos.intro [0,1,2,3,4,5] [] rfl (by simp only[hp1];(simp only[PB,SA,MB,seval,rdB,jaN,jaO,jam,jan,ja7,ja8,ja3,tq0,tq1,tq2]<;>exact tE))) (fun q hq=>?_)
   clear hw2 hw3
   obtain⟨i,c0,ps,crr⟩:=q
   obtain⟨hi,hra',hp',hcl',hU'⟩:=hq
   dsimp only at hi hra' hp' hcl' hU'
   have g4:=jar g3 c0
   by_cases hiN:i<(varV d a1).toNat
   ·obtain⟨m,hm⟩:∃m,(varV d a1).toNat-i=m+1:=⟨(varV d a1).toNat-i-1,by omega⟩
    rw[hm]at hU'
    simp only[letG]at hU'
    by_cases s1:upE d c0 1114111=0
    case neg =>
     rw[if_pos s1]at hU'
     subst hU'
     rw[if_pos s1]at hg
     subst hg
     rw[jbj s1,jbk s1]
     have hw2:=eq_false s1
     repeat' first|exact hra'|simp only[PB,SA,MB,seval,rdB,jaN,jaO,jam,jan,ja7,ja8,ja3,tq0,tq1,tq2]|simp only[hw]|simp only[hw2]|simp only[hw3]|simp only[hw4]|refine tT ?_|refine Cos.err (Cos.intro [0,1,2,3,4] [] rfl ?_)|refine And.intro ?_ ?_|exact tC|(refine tI ?_;intro hyp)|intro hyp0|omega
    have w1:=jbe s1
    rw[if_neg (by simp[s1])]at hU'
    obtain⟨c1,b7⟩:∃c1,c0+varU d c0=c1:=⟨_,rfl⟩
    have hrc:=jdQ hra' b7
    rw[b7]at hU'
    have hI:I32 (varV d c0):=by
     unfold I32
     omega
    have hw3:=And.intro (jo7 (n:=varV d c0) (by omega)) (And.intro b7 s1)
    have hm1:((ps % k:Nat):Int)=(ps:Int) % (k:Int):=rfl
    have hm2:0≤(ps:Int) % (k:Int)∧(ps:Int) % (k:Int)<k:=by
     rw[←hm1]
     have:=Nat.mod_lt ps (show 0<k by omega)
     omega
    have hwd:=jsE (varV d c0)
    by_cases s2:Utf.width (varV d c0)=0∨ps=crr.length∨(k:Int)<((ps % k:Nat):Int)+Utf.width (varV d c0)
    ·rw[if_pos s2]at hU'
     subst hU'
     rw[if_pos (by decide)]at hg
     subst hg
     rw[jbj (by decide),jbk (by decide)]
     repeat' first|exact hra'|exact hI|simp only[PB,SA,MB,seval,rdB,jaN,jaO,jam,jan,ja7,ja8,ja3,tq0,tq1,tq2]|simp only[hw]|simp only[hw2]|simp only[hw3]|simp only[hw4]|refine tT ?_|refine Cos.err (Cos.intro [0,1,2,3,4] [] rfl ?_)|refine And.intro ?_ ?_|exact tC|(refine tI ?_;intro hyp)|intro hyp0|omega
    ·rw[if_neg s2]at hU'
     have s3:=not_or.mp s2
     have s4:=not_or.mp s3.2
     have s5:=s4.2
     rw[hm1]at s5
     have hput:(putL crr ps (varV d c0) (Utf.width (varV d c0)) ⟨varV d a2,varV d a3,varV d a4,varV d a5⟩).length=crr.length:=jnO _ _ _ _ _
     have hin:Utf.width (varV d c0)=2→ps+1<crr.length:=fun e=>by
      rw[e]at s5
      rw[hcl',hl]
      exact jro (by rw[←hl,←hcl'];omega) (by omega)
     have hget:∀A:CD,(crr.set ps A).getD ps default=A:=fun A=>jdo (by omega)
     have hset:∀A B:CD,(crr.set ps A).set ps B=crr.set ps B:=fun A B=>List.set_set ..
     have hw4:=And.intro hget hset
     have hps:(ps:Int)+Utf.width (varV d c0)=((ps+(Utf.width (varV d c0)).toNat:Nat):Int):=by omega
     repeat' first|exact hra'|exact hI|exact hin ‹_›|exact Int.ofNat_lt.mpr (hin ‹_›)|simp only[PB,SA,MB,seval,rdB,jaN,jaO,jam,jan,ja7,ja8,ja3,tq0,tq1,tq2]|simp only[hw]|simp only[hw2]|simp only[hw3]|simp only[hw4]|refine tT ?_|refine And.intro ?_ ?_|exact tC|(refine tI ?_;intro hyp)|intro hyp0|omega
     ·have hx:=hin hyp
      refine⟨(i+1,c1,ps+(Utf.width (varV d c0)).toNat,putL crr ps (varV d c0) (Utf.width (varV d c0)) ⟨varV d a2,varV d a3,varV d a4,varV d a5⟩),⟨?_,hrc,?_,hput.trans hcl',?_⟩,?_,Cos.intro [0,1,2,3,4,5] [] rfl ?_⟩
      ·dsimp only
       omega
      ·dsimp only
       rw[hput]
       omega
      ·dsimp only
       rw[show (varV d a1).toNat-(i+1)=m by omega]
       exact hU'
      ·dsimp only
       omega
      ·dsimp only
       rw[hps,hput]
       rw[putL,if_pos hyp]
       (simp only[PB,SA,MB,seval,rdB,jaN,jaO,jam,jan,ja7,ja8,ja3,tq0,tq1,tq2]<;>exact tE)
     ·refine⟨(i+1,c1,ps+(Utf.width (varV d c0)).toNat,putL crr ps (varV d c0) (Utf.width (varV d c0)) ⟨varV d a2,varV d a3,varV d a4,varV d a5⟩),⟨?_,hrc,?_,hput.trans hcl',?_⟩,?_,Cos.intro [0,1,2,3,4,5] [] rfl ?_⟩
      ·dsimp only
       omega
      ·dsimp only
       rw[hput]
       omega
      ·dsimp only
       rw[show (varV d a1).toNat-(i+1)=m by omega]
       exact hU'
      ·dsimp only
       omega
      ·dsimp only
       rw[hps,hput]
       rw[putL,if_neg hyp]
       (simp only[PB,SA,MB,seval,rdB,jaN,jaO,jam,jan,ja7,ja8,ja3,tq0,tq1,tq2]<;>exact tE)
   ·rw[show (varV d a1).toNat-i=0 by omega]at hU'
    simp only[letG]at hU'
    subst hU'
    rw[if_neg (by simp)]at hg
    have hwr:IntKind.u64.wrap (((n+1:Nat):Int)-1)=n:=by
     rw[show ((n+1:Nat):Int)-1=n by omega]
     exact jmb (by omega)
    have hw2:=hwr
    repeat' first|simp only[PB,SA,MB,seval,rdB,jaN,jaO,jam,jan,ja7,ja8,ja3,tq0,tq1,tq2]|simp only[hw]|simp only[hw2]|simp only[hw3]|simp only[hw4]|refine tT ?_|refine And.intro ?_ ?_|exact tC|(refine tI ?_;intro hyp)|intro hyp0|omega
    exact⟨(n,c0,ps,crr),⟨by unfold Few;omega,hra',hp',hcl',hg⟩,Nat.lt_succ_self _,Cos.intro [0,1,2,3,4] [] rfl (by (simp only[PB,SA,MB,seval,rdB,jaN,jaO,jam,jan,ja7,ja8,ja3,tq0,tq1,tq2]<;>exact tE))⟩
 ·have hW:rnsG d a k more.length L=(jdr d a,0,[]):=by rw[rnsG,if_pos e1]
  rw[hW,jbj e1,jbk e1]
  have hw:=eq_false e1
  repeat' first|exact hr1|simp only[PB,SA,MB,seval,rdB,jaN,jaO,jam,jan,ja7,ja8,ja3,tq0,tq1,tq2]|simp only[hw]|simp only[hw2]|simp only[hw3]|simp only[hw4]|refine tT ?_|refine Cos.err (Cos.intro [0,1,2,3,4] [] rfl ?_)|refine And.intro ?_ ?_|exact tC|(refine tI ?_;intro hyp)|intro hyp0|omega)
end
end Go.Proofs.YtcfkfgkndncanaaGreatDoor
