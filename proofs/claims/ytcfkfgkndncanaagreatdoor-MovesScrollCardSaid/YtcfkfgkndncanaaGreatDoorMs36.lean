/- Texts of this claim, merged by a program of this claim: FThing. -/
import Derived.Test.YtcfkfgkndncanaaGreatDoorMs33
import Derived.Test.YtcfkfgkndncanaaGreatDoorMs34
import Derived.Test.YtcfkfgkndncanaaGreatDoorMs35
namespace Go.Proofs.YtcfkfgkndncanaaGreatDoor
set_option linter.unusedVariables false
set_option linter.unusedSimpArgs false
section
open Go.RowKit
set_option maxRecDepth 100000
set_option maxHeartbeats 4000000
theorem jCg {x y:Int}(hx:0≤x∧x≤80) (hy:0≤y∧y≤24):0≤x*y∧x*y≤1920 :=
 ⟨Int.mul_nonneg hx.1 hy.1,Int.le_trans (Int.mul_le_mul hx.2 hy.2 hy.1 (by decide)) (by decide)⟩
theorem jy1 {x y:Int}(hx:0≤x∧x≤80) (hy:0≤y∧y≤24) (h:¬x*y=0):je5 x y=true:=by
 have hx0:x≠0:=fun e=>h (by rw[e,Int.zero_mul])
 have hy0:y≠0:=fun e=>h (by rw[e,Int.mul_zero])
 simp only[je5,Bool.and_eq_true,decide_eq_true_eq]
 omega
theorem jw1 {d:List Int}{a:Nat}{k r:Int}{L:List CD}(hz:Szd k r L) (hb:Bts d) (ha:a≤d.length) (h:(cpsG d a k.toNat r.toNat L).1=0):(cpsG d a k.toNat r.toNat L).2.2.length=L.length:=by
 unfold cpsG at h ⊢
 split at h
 ·rename_i q
  exact absurd h q
 ·rename_i q
  rw[if_neg q]
  exact (jnt k.toNat r.toNat L hz.2.2 hb _ _ _ _ (jbz ha) hz.2.2).2 h
theorem jw2 {d:List Int}{a k nl:Nat}{L:List CD}(ha:a≤d.length) (h:(rnsG d a k nl L).1=0):(rnsG d a k nl L).2.2.length=L.length:=by
 unfold rnsG at h ⊢
 split at h
 ·rename_i q
  exact absurd h q
 ·rename_i q
  rw[if_neg q]
  exact (jns k nl _ _ _ _ (jbz ha)).2 h
abbrev jiS (k:Int) (r:Int) (L:List CD) (x:Int) (y:Int) (hd:Bool) (mo:Int) (ti:ByteArray) (l:List ByteArray) (more:List ByteArray) (d:List Int) (a:Nat) (kd:Int):List CV:=[.ptr 0 0 0,.int .i64 kd]
abbrev jiT (k:Int) (r:Int) (L:List CD) (x:Int) (y:Int) (hd:Bool) (mo:Int) (ti:ByteArray) (l:List ByteArray) (more:List ByteArray) (d:List Int) (a:Nat) (kd:Int):KH:=[RB 2 k r L.length x y hd mo ti l more,rdr d a 0,.seq .cell L]
abbrev jq6 (k:Int) (r:Int) (L:List CD) (x:Int) (y:Int) (hd:Bool) (mo:Int) (ti:ByteArray) (l:List ByteArray) (more:List ByteArray) (d:List Int) (a:Nat) (kd:Int):Prop×Res×KH:=(RdOk d a∧Szd k r L∧(l.length≤16∧more.length≤16)∧(∀c∈L,CWf c)∧(kd≤5→∀c∈L,c.link≤l.length)∧(kd≤6→jbM k r L=true)∧(1≤kd∧kd≤8),.ret (.tup []),[RB 3 (thG d kd ⟨k,r,L,x,y,hd,mo,ti,l,more,a⟩).2.k (thG d kd ⟨k,r,L,x,y,hd,mo,ti,l,more,a⟩).2.r (thG d kd ⟨k,r,L,x,y,hd,mo,ti,l,more,a⟩).2.L.length (thG d kd ⟨k,r,L,x,y,hd,mo,ti,l,more,a⟩).2.x (thG d kd ⟨k,r,L,x,y,hd,mo,ti,l,more,a⟩).2.y (thG d kd ⟨k,r,L,x,y,hd,mo,ti,l,more,a⟩).2.hd (thG d kd ⟨k,r,L,x,y,hd,mo,ti,l,more,a⟩).2.mo (thG d kd ⟨k,r,L,x,y,hd,mo,ti,l,more,a⟩).2.ti (thG d kd ⟨k,r,L,x,y,hd,mo,ti,l,more,a⟩).2.l (thG d kd ⟨k,r,L,x,y,hd,mo,ti,l,more,a⟩).2.more,rdr d (thG d kd ⟨k,r,L,x,y,hd,mo,ti,l,more,a⟩).2.a 0,.dead,.seq .cell (thG d kd ⟨k,r,L,x,y,hd,mo,ti,l,more,a⟩).2.L])
noncomputable def jls:MSpec:=jcS (α:=Int×Int×(List CD)×Int×Int×Bool×Int×ByteArray×(List ByteArray)×(List ByteArray)×(List Int)×Nat×Int) (fun⟨k,r,L,x,y,hd,mo,ti,l,more,d,a,kd⟩=>(jiS k r L x y hd mo ti l more d a kd,jiT k r L x y hd mo ti l more d a kd)) fun⟨k,r,L,x,y,hd,mo,ti,l,more,d,a,kd⟩=>jq6 k r L x y hd mo ti l more d a kd
noncomputable def esp_thing:ESpec:=jjo (α:=Int×Int×(List CD)×Int×Int×Bool×Int×ByteArray×(List ByteArray)×(List ByteArray)×(List Int)×Nat×Int) (fun⟨k,r,L,x,y,hd,mo,ti,l,more,d,a,kd⟩=>(jiS k r L x y hd mo ti l more d a kd,jiT k r L x y hd mo ti l more d a kd)) fun⟨k,r,L,x,y,hd,mo,ti,l,more,d,a,kd⟩=>(thG d kd ⟨k,r,L,x,y,hd,mo,ti,l,more,a⟩).1
theorem jlt:InjM (α:=Int×Int×(List CD)×Int×Int×Bool×Int×ByteArray×(List ByteArray)×(List ByteArray)×(List Int)×Nat×Int) (fun⟨k,r,L,x,y,hd,mo,ti,l,more,d,a,kd⟩=>(jiS k r L x y hd mo ti l more d a kd,jiT k r L x y hd mo ti l more d a kd)):=injM
theorem jbl (k:Int) (r:Int) (L:List CD) (x:Int) (y:Int) (hd:Bool) (mo:Int) (ti:ByteArray) (l:List ByteArray) (more:List ByteArray) (d:List Int) (a:Nat) (kd:Int):jls (jiS k r L x y hd mo ti l more d a kd) (jiT k r L x y hd mo ti l more d a kd)=some (jq6 k r L x y hd mo ti l more d a kd):=jbd _ jlt (k,r,L,x,y,hd,mo,ti,l,more,d,a,kd)
theorem jbm (k:Int) (r:Int) (L:List CD) (x:Int) (y:Int) (hd:Bool) (mo:Int) (ti:ByteArray) (l:List ByteArray) (more:List ByteArray) (d:List Int) (a:Nat) (kd:Int):esp_thing (jiS k r L x y hd mo ti l more d a kd) (jiT k r L x y hd mo ti l more d a kd)=(thG d kd ⟨k,r,L,x,y,hd,mo,ti,l,more,a⟩).1:=jdC _ jlt (k,r,L,x,y,hd,mo,ti,l,more,d,a,kd)
theorem jy2:MutP Tryz.prog E0 29 jls esp_thing:=MutP.of jlt fun⟨k,r,L,x,y,hd,mo,ti,l,more,d,a,kd⟩ hG=>TF.intro (V:=(VV [(62,conP jfR esp_upto),(60,conM msp_wvar),(61,conP jhU esp_must),(63,conM msp_wtext),(64,conP jiN esp_rlinks),(65,conT [.agg [.any,.any,.sl .cell,.any,.any,.any,.any,.any,.sl .str],.any] sp_mscrolled),(66,conP jhp esp_rcopies),(67,conP jli esp_rruns),(48,conT [.any,.any] sp_pblank)] (.cons (jaa jbs) (MutP.soundP jkI) (.cons (jaa jb1) (MutF.soundM jm6) (.cons (jaa jbr) (MutP.soundP jqu) (.cons (jaa jdc) (MutF.soundM jr5) (.cons (jaa jdK) (MutP.soundP jwM) (.cons (jaa jcY) (Fresh.soundT jje) (.cons (jaa jdn) (MutP.soundP jtE) (.cons (jaa jd5) (MutP.soundP jyX) (.cons (jaa jdl) (Fresh.soundT jo6) GOk.nil))))))))) 155 3)) jdM rfl rfl (by
 dsimp only[jiS,jiT,jq6]at hG ⊢
 obtain⟨hr1,hz,⟨hl1,hl2⟩,hwf,hlk,hgr,hkd⟩:=hG
 have hle:=hz.le
 have hz0:=hz
 obtain⟨hk,hr,hl⟩:=hz
 have h3:=hr1.2.2
 obtain⟨s,hs⟩:∃s:RS,s=⟨k,r,L,x,y,hd,mo,ti,l,more,a⟩:=⟨_,rfl⟩
 obtain rfl|rfl|rfl|rfl|rfl|rfl|rfl|rfl:kd=1∨kd=2∨kd=3∨kd=4∨kd=5∨kd=6∨kd=7∨kd=8:=by omega
 ·have hT:thG d 1 ⟨k,r,L,x,y,hd,mo,ti,l,more,a⟩=th1 d ⟨k,r,L,x,y,hd,mo,ti,l,more,a⟩:=rfl
  rw[hT]
  obtain⟨a1,b1⟩:∃a1,a+varU d a=a1:=⟨_,rfl⟩
  obtain⟨a2,b2⟩:∃a2,a1+varU d a1=a2:=⟨_,rfl⟩
  have hr2:=jlg hr1 b1
  have v1:=jaO h3 a
  have v2:=jaO h3 a1
  by_cases t1:varE d a=0
  case neg =>
   have hW:th1 d ⟨k,r,L,x,y,hd,mo,ti,l,more,a⟩=(varE d a,.bad):=by simp only[th1,t1,ne_eq,not_true_eq_false,not_false_eq_true,if_true,if_false]
   rw[hW,ja0 t1,ja1 t1]
   have hw:=And.intro b1 (eq_false t1)
   repeat' first|exact h3 _ ‹_›|exact hr1.1|exact hr1.2.1|simp only[PB,SA,MB,seval,rdB,jac,jad,jao,jaB,jaC,jap,jaD,jaE,jab,jas,jat,jaL,jaM,jaw,tq0,tq1,tq2]|simp only[hw]|refine tT ?_|refine Cos.err (Cos.intro [0,1,2] [] rfl ?_)|refine And.intro ?_ ?_|exact tC|(refine tI ?_;intro hyp)|intro hyp0|omega
  by_cases t2:varE d a1=0
  case neg =>
   have hW:th1 d ⟨k,r,L,x,y,hd,mo,ti,l,more,a⟩=(varE d a1,.bad):=by simp only[th1,b1,t1,t2,ne_eq,not_true_eq_false,not_false_eq_true,if_true,if_false]
   rw[hW,ja0 t2,ja1 t2]
   have hw:=And.intro b1 (And.intro t1 (eq_false t2))
   repeat' first|exact h3 _ ‹_›|exact hr1.1|exact hr1.2.1|exact hr2.1|simp only[PB,SA,MB,seval,rdB,jac,jad,jao,jaB,jaC,jap,jaD,jaE,jab,jas,jat,jaL,jaM,jaw,tq0,tq1,tq2]|simp only[hw]|refine tT ?_|refine Cos.err (Cos.intro [0,1,2] [] rfl ?_)|refine And.intro ?_ ?_|exact tC|(refine tI ?_;intro hyp)|intro hyp0|omega
  by_cases t3:80<varV d a∨24<varV d a1
  ·have hW:th1 d ⟨k,r,L,x,y,hd,mo,ti,l,more,a⟩=(3,.bad):=by
    have t5:80<varV d a∨24<varV d a1∨varV d a*varV d a1=0:=by omega
    simp only[th1,b1,t1,t2,ne_eq,not_true_eq_false,not_false_eq_true,if_true,if_false,if_pos t5]
   rw[hW,ja0 (by decide),ja1 (by decide)]
   have hw:=And.intro b1 (And.intro b2 (And.intro t1 t2))
   repeat' first|exact h3 _ ‹_›|exact hr1.1|exact hr1.2.1|exact hr2.1|simp only[PB,SA,MB,seval,rdB,jac,jad,jao,jaB,jaC,jap,jaD,jaE,jab,jas,jat,jaL,jaM,jaw,tq0,tq1,tq2]|simp only[hw]|refine tT ?_|refine Cos.err (Cos.intro [0,1,2] [] rfl ?_)|refine And.intro ?_ ?_|exact tC|(refine tI ?_;intro hyp)|intro hyp0|omega
   all_goals (exfalso;omega)
  have s1:=not_or.mp t3
  have hm:=jCg (x:=varV d a) (y:=varV d a1) (by omega) (by omega)
  have hww:=And.intro (jpA (n:=varV d a) (by omega)) (And.intro (jpA (n:=varV d a1) (by omega)) (jpz (n:=varV d a*varV d a1) (by omega)))
  have hw:=And.intro b1 (And.intro b2 (And.intro t1 (And.intro t2 hww)))
  by_cases t4:varV d a*varV d a1=0
  ·have hW:th1 d ⟨k,r,L,x,y,hd,mo,ti,l,more,a⟩=(3,.bad):=by
    have t5:80<varV d a∨24<varV d a1∨varV d a*varV d a1=0:=by omega
    simp only[th1,b1,t1,t2,ne_eq,not_true_eq_false,not_false_eq_true,if_true,if_false,if_pos t5]
   rw[hW,ja0 (by decide),ja1 (by decide)]
   repeat' first|exact h3 _ ‹_›|exact hr1.1|exact hr1.2.1|exact hr2.1|simp only[PB,SA,MB,seval,rdB,jac,jad,jao,jaB,jaC,jap,jaD,jaE,jab,jas,jat,jaL,jaM,jaw,tq0,tq1,tq2]|simp only[hw]|refine tT ?_|refine Cos.err (Cos.intro [0,1,2] [] rfl ?_)|refine And.intro ?_ ?_|exact tC|(refine tI ?_;intro hyp)|intro hyp0|omega
   all_goals (exfalso;omega)
  ·have hW:th1 d ⟨k,r,L,x,y,hd,mo,ti,l,more,a⟩=(0,⟨varV d a,varV d a1,List.replicate ((varV d a).toNat*(varV d a1).toNat) blank0,0,0,false,0,bs [],[],[],a2⟩):=by
    have t5:¬(80<varV d a∨24<varV d a1∨varV d a*varV d a1=0):=by omega
    simp only[th1,b1,b2,t1,t2,ne_eq,not_true_eq_false,not_false_eq_true,if_true,if_false,if_neg t5]
   rw[hW,jcv rfl,jcw rfl]
   have hfit:=jy1 (x:=varV d a) (y:=varV d a1) (by omega) (by omega) t4
   repeat' first|exact h3 _ ‹_›|exact hr1.1|exact hr1.2.1|exact hr2.1|exact hfit|simp only[PB,SA,MB,seval,rdB,jac,jad,jao,jaB,jaC,jap,jaD,jaE,jab,jas,jat,jaL,jaM,jaw,tq0,tq1,tq2]|simp only[hw]|refine tT ?_|refine Cos.intro [0,1,2,3] [4] rfl ?_|refine And.intro ?_ ?_|exact tC|(refine tI ?_;intro hyp)|intro hyp0|omega
 ·have hT:thG d 2 ⟨k,r,L,x,y,hd,mo,ti,l,more,a⟩=th2 d ⟨k,r,L,x,y,hd,mo,ti,l,more,a⟩:=rfl
  rw[hT]
  obtain⟨a1,b1⟩:∃a1,a+varU d a=a1:=⟨_,rfl⟩
  obtain⟨a2,b2⟩:∃a2,a1+varU d a1=a2:=⟨_,rfl⟩
  obtain⟨a3,b3⟩:∃a3,a2+varU d a2=a3:=⟨_,rfl⟩
  have hr2:=jlg hr1 b1
  have hr3:=jlg hr2 b2
  have hr4:=jlg hr3 b3
  by_cases t1:upE d a (k-1)=0
  case neg =>
   have hW:th2 d ⟨k,r,L,x,y,hd,mo,ti,l,more,a⟩=(upE d a (k-1),.bad):=by simp only[th2,b1,t1,ne_eq,not_true_eq_false,not_false_eq_true,if_true,if_false]
   rw[hW,ja0 t1,ja1 t1]
   have hw:=eq_false t1
   repeat' first|exact hr1|simp only[PB,SA,MB,seval,rdB,jac,jad,jao,jaB,jaC,jap,jaD,jaE,jab,jas,jat,jaL,jaM,jaw,tq0,tq1,tq2]|simp only[hw]|refine tT ?_|refine Cos.err (Cos.intro [0,1,2] [] rfl ?_)|refine And.intro ?_ ?_|exact tC|(refine tI ?_;intro hyp)|intro hyp0|omega
  by_cases t2:upE d a1 (r-1)=0
  case neg =>
   have hW:th2 d ⟨k,r,L,x,y,hd,mo,ti,l,more,a⟩=(upE d a1 (r-1),.bad):=by simp only[th2,b1,t1,t2,ne_eq,not_true_eq_false,not_false_eq_true,if_true,if_false]
   rw[hW,ja0 t2,ja1 t2]
   have hw:=And.intro (b1) (And.intro (t1) (eq_false t2))
   repeat' first|exact hr1|exact hr2|simp only[PB,SA,MB,seval,rdB,jac,jad,jao,jaB,jaC,jap,jaD,jaE,jab,jas,jat,jaL,jaM,jaw,tq0,tq1,tq2]|simp only[hw]|refine tT ?_|refine Cos.err (Cos.intro [0,1,2] [] rfl ?_)|refine And.intro ?_ ?_|exact tC|(refine tI ?_;intro hyp)|intro hyp0|omega
  by_cases t3:upE d a2 1=0
  case neg =>
   have hW:th2 d ⟨k,r,L,x,y,hd,mo,ti,l,more,a⟩=(upE d a2 1,.bad):=by simp only[th2,b1,b2,t1,t2,t3,ne_eq,not_true_eq_false,not_false_eq_true,if_true,if_false]
   rw[hW,ja0 t3,ja1 t3]
   have hw:=And.intro (b1) (And.intro (b2) (And.intro (t1) (And.intro (t2) (eq_false t3))))
   repeat' first|exact hr1|exact hr2|exact hr3|simp only[PB,SA,MB,seval,rdB,jac,jad,jao,jaB,jaC,jap,jaD,jaE,jab,jas,jat,jaL,jaM,jaw,tq0,tq1,tq2]|simp only[hw]|refine tT ?_|refine Cos.err (Cos.intro [0,1,2] [] rfl ?_)|refine And.intro ?_ ?_|exact tC|(refine tI ?_;intro hyp)|intro hyp0|omega
  have hW:th2 d ⟨k,r,L,x,y,hd,mo,ti,l,more,a⟩=(0,⟨k,r,L,varV d a,varV d a1,decide (varV d a2=1),mo,ti,l,more,a3⟩):=by simp only[th2,b1,b2,b3,t1,t2,t3,ne_eq,not_true_eq_false,not_false_eq_true,if_true,if_false]
  rw[hW,jcv rfl,jcw rfl]
  have hw:=And.intro b1 (And.intro b2 (And.intro b3 (And.intro t1 (And.intro t2 t3))))
  repeat' first|exact hr1|exact hr2|exact hr3|simp only[PB,SA,MB,seval,rdB,jac,jad,jao,jaB,jaC,jap,jaD,jaE,jab,jas,jat,jaL,jaM,jaw,tq0,tq1,tq2]|simp only[hw]|refine tT ?_|refine Cos.intro [0,1,2,2] [] rfl ?_|refine And.intro ?_ ?_|exact tC|(refine tI ?_;intro hyp)|intro hyp0|omega
 ·have hT:thG d 3 ⟨k,r,L,x,y,hd,mo,ti,l,more,a⟩=th3 d ⟨k,r,L,x,y,hd,mo,ti,l,more,a⟩:=rfl
  rw[hT]
  by_cases t1:jd0 d a 64=0
  ·have hW:th3 d ⟨k,r,L,x,y,hd,mo,ti,l,more,a⟩=(0,⟨k,r,L,x,y,hd,mo,ja5 (je2 d a 64),l,more,a+je3 d a 64⟩):=if_neg (by simp[t1])
   rw[hW,jcv rfl,jcw rfl]
   have hw:=t1
   repeat' first|exact h3 _ ‹_›|exact hr1.1|exact hr1.2.1|simp only[PB,SA,MB,seval,rdB,jac,jad,jao,jaB,jaC,jap,jaD,jaE,jab,jas,jat,jaL,jaM,jaw,tq0,tq1,tq2]|simp only[hw]|refine tT ?_|refine Cos.intro [0,1,2,2] [] rfl ?_|refine And.intro ?_ ?_|exact tC|(refine tI ?_;intro hyp)|intro hyp0|omega
  ·have hW:th3 d ⟨k,r,L,x,y,hd,mo,ti,l,more,a⟩=(jd0 d a 64,.bad):=if_pos t1
   rw[hW,ja0 t1,ja1 t1]
   have hw:=eq_false t1
   repeat' first|exact h3 _ ‹_›|exact hr1.1|exact hr1.2.1|simp only[PB,SA,MB,seval,rdB,jac,jad,jao,jaB,jaC,jap,jaD,jaE,jab,jas,jat,jaL,jaM,jaw,tq0,tq1,tq2]|simp only[hw]|refine tT ?_|refine Cos.err (Cos.intro [0,1,2] [] rfl ?_)|refine And.intro ?_ ?_|exact tC|(refine tI ?_;intro hyp)|intro hyp0|omega
 ·have hT:thG d 4 ⟨k,r,L,x,y,hd,mo,ti,l,more,a⟩=th4 d ⟨k,r,L,x,y,hd,mo,ti,l,more,a⟩:=rfl
  rw[hT]
  by_cases t1:upE d a 2=0
  ·have u1:=jcq t1
   have v1:=jaO h3 a
   have hW:th4 d ⟨k,r,L,x,y,hd,mo,ti,l,more,a⟩=(0,⟨k,r,L,x,y,hd,varV d a,ti,l,more,a+varU d a⟩):=if_neg (by simp[t1])
   rw[hW,jcv rfl,jcw rfl]
   have hw:=And.intro t1 (w_u8 (n:=varV d a) (by omega))
   repeat' first|exact hr1|simp only[PB,SA,MB,seval,rdB,jac,jad,jao,jaB,jaC,jap,jaD,jaE,jab,jas,jat,jaL,jaM,jaw,tq0,tq1,tq2]|simp only[hw]|refine tT ?_|refine Cos.intro [0,1,2,2] [] rfl ?_|refine And.intro ?_ ?_|exact tC|(refine tI ?_;intro hyp)|intro hyp0|omega
  ·have hW:th4 d ⟨k,r,L,x,y,hd,mo,ti,l,more,a⟩=(upE d a 2,.bad):=if_pos t1
   rw[hW,ja0 t1,ja1 t1]
   have hw:=eq_false t1
   repeat' first|exact hr1|simp only[PB,SA,MB,seval,rdB,jac,jad,jao,jaB,jaC,jap,jaD,jaE,jab,jas,jat,jaL,jaM,jaw,tq0,tq1,tq2]|simp only[hw]|refine tT ?_|refine Cos.err (Cos.intro [0,1,2] [] rfl ?_)|refine And.intro ?_ ?_|exact tC|(refine tI ?_;intro hyp)|intro hyp0|omega
 ·have hT:thG d 5 ⟨k,r,L,x,y,hd,mo,ti,l,more,a⟩=th5 d ⟨k,r,L,x,y,hd,mo,ti,l,more,a⟩:=rfl
  rw[hT]
  have hc:=And.intro hr1 (And.intro (And.intro (show L.length≤60000 by omega) hl1) (And.intro hwf (hlk (by decide))))
  by_cases t1:(lkG d a l).1=0
  ·have hlm:(L.map (ulf l (lkG d a l).2.2)).length=L.length:=List.length_map _
   have hW:th5 d ⟨k,r,L,x,y,hd,mo,ti,l,more,a⟩=(0,⟨k,r,L.map (ulf l (lkG d a l).2.2),x,y,hd,mo,ti,l,(lkG d a l).2.2,(lkG d a l).2.1⟩):=if_neg (by simp[t1])
   rw[hW,jcv rfl,jcw rfl]
   dsimp only
   rw[hlm]
   have hw:=t1
   repeat' first|exact hc|simp only[PB,SA,MB,seval,rdB,jac,jad,jao,jaB,jaC,jap,jaD,jaE,jab,jas,jat,jaL,jaM,jaw,tq0,tq1,tq2]|simp only[hw]|refine tT ?_|refine Cos.intro [0,1,2,3] [] rfl ?_|refine And.intro ?_ ?_|exact tC|(refine tI ?_;intro hyp)|intro hyp0|omega
  ·have hW:th5 d ⟨k,r,L,x,y,hd,mo,ti,l,more,a⟩=((lkG d a l).1,.bad):=if_pos t1
   rw[hW,ja0 t1,ja1 t1]
   have hw:=eq_false t1
   repeat' first|exact hc|simp only[PB,SA,MB,seval,rdB,jac,jad,jao,jaB,jaC,jap,jaD,jaE,jab,jas,jat,jaL,jaM,jaw,tq0,tq1,tq2]|simp only[hw]|refine tT ?_|refine Cos.err (Cos.intro [0,1,2] [] rfl ?_)|refine And.intro ?_ ?_|exact tC|(refine tI ?_;intro hyp)|intro hyp0|omega
 ·have hT:thG d 6 ⟨k,r,L,x,y,hd,mo,ti,l,more,a⟩=th6 d ⟨k,r,L,x,y,hd,mo,ti,l,more,a⟩:=rfl
  rw[hT]
  have hgr':=hgr (by decide)
  obtain⟨a1,b1⟩:∃a1,a+varU d a=a1:=⟨_,rfl⟩
  have v1:=jaO h3 a
  by_cases t1:upE d a (2*r-2)=0
  case neg =>
   have hW:th6 d ⟨k,r,L,x,y,hd,mo,ti,l,more,a⟩=(upE d a (2*r-2),.bad):=by simp only[th6,b1,t1,ne_eq,not_true_eq_false,not_false_eq_true,if_true,if_false]
   rw[hW,ja0 t1,ja1 t1]
   have hw:=eq_false t1
   repeat' first|exact hr1|simp only[PB,SA,MB,seval,rdB,jac,jad,jao,jaB,jaC,jap,jaD,jaE,jab,jas,jat,jaL,jaM,jaw,tq0,tq1,tq2]|simp only[hw]|refine tT ?_|refine Cos.err (Cos.intro [0,1,2] [] rfl ?_)|refine And.intro ?_ ?_|exact tC|(refine tI ?_;intro hyp)|intro hyp0|omega
  have u1:=jcq t1
  by_cases t2:varV d a=0
  ·have hW:th6 d ⟨k,r,L,x,y,hd,mo,ti,l,more,a⟩=(3,.bad):=by simp only[th6,t1,t2,ne_eq,not_true_eq_false,not_false_eq_true,if_true,if_false]
   rw[hW,ja0 (by decide),ja1 (by decide)]
   have hw:=And.intro t1 t2
   repeat' first|exact hr1|simp only[PB,SA,MB,seval,rdB,jac,jad,jao,jaB,jaC,jap,jaD,jaE,jab,jas,jat,jaL,jaM,jaw,tq0,tq1,tq2]|simp only[hw]|refine tT ?_|refine Cos.err (Cos.intro [0,1,2] [] rfl ?_)|refine And.intro ?_ ?_|exact tC|(refine tI ?_;intro hyp)|intro hyp0|omega
  ·have hW:th6 d ⟨k,r,L,x,y,hd,mo,ti,l,more,a⟩=(0,⟨k,r,(jcf (jam L k.toNat r.toNat) (jlk (varV d a))).flatten,x,y,hd,mo,ti,l,more,a1⟩):=by simp only[th6,t1,t2,b1,ne_eq,not_true_eq_false,not_false_eq_true,if_true,if_false]
   rw[hW,jcv rfl,jcw rfl]
   have hcw:CWs L:=fun c hc=>(hwf c hc).1
   by_cases hpar:varV d a % 2=0
   ·rw[jlk,if_pos hpar]
    have hw:=And.intro t1 (And.intro (eq_false t2) (And.intro b1 hpar))
    repeat' first|exact hr1|exact hgr'|exact hcw _ ‹_›|simp only[PB,SA,MB,seval,rdB,jac,jad,jao,jaB,jaC,jap,jaD,jaE,jab,jas,jat,jaL,jaM,jaw,tq0,tq1,tq2]|simp only[hw]|refine tT ?_|refine Cos.intro [0,1,2,3] [] rfl ?_|refine And.intro ?_ ?_|exact tC|(refine tI ?_;intro hyp)|intro hyp0|omega
   ·rw[jlk,if_neg hpar]
    have hw:=And.intro t1 (And.intro (eq_false t2) (And.intro b1 (eq_false hpar)))
    repeat' first|exact hr1|exact hgr'|exact hcw _ ‹_›|simp only[PB,SA,MB,seval,rdB,jac,jad,jao,jaB,jaC,jap,jaD,jaE,jab,jas,jat,jaL,jaM,jaw,tq0,tq1,tq2]|simp only[hw]|refine tT ?_|refine Cos.intro [0,1,2,3] [] rfl ?_|refine And.intro ?_ ?_|exact tC|(refine tI ?_;intro hyp)|intro hyp0|omega
 ·have hT:thG d 7 ⟨k,r,L,x,y,hd,mo,ti,l,more,a⟩=th7 d ⟨k,r,L,x,y,hd,mo,ti,l,more,a⟩:=rfl
  rw[hT]
  have hc:=And.intro hr1 hz0
  by_cases t1:(cpsG d a k.toNat r.toNat L).1=0
  ·have hlm:=jw1 (d:=d) (a:=a) hz0 hr1.2.2 hr1.1 t1
   have hW:th7 d ⟨k,r,L,x,y,hd,mo,ti,l,more,a⟩=(0,⟨k,r,(cpsG d a k.toNat r.toNat L).2.2,x,y,hd,mo,ti,l,more,(cpsG d a k.toNat r.toNat L).2.1⟩):=if_neg (by simp[t1])
   rw[hW,jcv rfl,jcw rfl]
   dsimp only
   rw[hlm]
   have hw:=t1
   repeat' first|exact hc|simp only[PB,SA,MB,seval,rdB,jac,jad,jao,jaB,jaC,jap,jaD,jaE,jab,jas,jat,jaL,jaM,jaw,tq0,tq1,tq2]|simp only[hw]|refine tT ?_|refine Cos.intro [0,1,2,3] [] rfl ?_|refine And.intro ?_ ?_|exact tC|(refine tI ?_;intro hyp)|intro hyp0|omega
  ·have hW:th7 d ⟨k,r,L,x,y,hd,mo,ti,l,more,a⟩=((cpsG d a k.toNat r.toNat L).1,.bad):=if_pos t1
   rw[hW,ja0 t1,ja1 t1]
   have hw:=eq_false t1
   repeat' first|exact hc|simp only[PB,SA,MB,seval,rdB,jac,jad,jao,jaB,jaC,jap,jaD,jaE,jab,jas,jat,jaL,jaM,jaw,tq0,tq1,tq2]|simp only[hw]|refine tT ?_|refine Cos.err (Cos.intro [0,1,2] [] rfl ?_)|refine And.intro ?_ ?_|exact tC|(refine tI ?_;intro hyp)|intro hyp0|omega
 ·have hT:thG d 8 ⟨k,r,L,x,y,hd,mo,ti,l,more,a⟩=th8 d ⟨k,r,L,x,y,hd,mo,ti,l,more,a⟩:=rfl
  rw[hT]
  have hc:=And.intro hr1 (And.intro hz0 hl2)
  by_cases t1:(rnsG d a k.toNat more.length L).1=0
  ·have hlm:=jw2 (d:=d) (a:=a) (k:=k.toNat) (nl:=more.length) hr1.1 t1
   have hW:th8 d ⟨k,r,L,x,y,hd,mo,ti,l,more,a⟩=(0,⟨k,r,(rnsG d a k.toNat more.length L).2.2,x,y,hd,mo,ti,l,more,(rnsG d a k.toNat more.length L).2.1⟩):=if_neg (by simp[t1])
   rw[hW,jcv rfl,jcw rfl]
   dsimp only
   rw[hlm]
   have hw:=t1
   repeat' first|exact hc|simp only[PB,SA,MB,seval,rdB,jac,jad,jao,jaB,jaC,jap,jaD,jaE,jab,jas,jat,jaL,jaM,jaw,tq0,tq1,tq2]|simp only[hw]|refine tT ?_|refine Cos.intro [0,1,2,3] [] rfl ?_|refine And.intro ?_ ?_|exact tC|(refine tI ?_;intro hyp)|intro hyp0|omega
  ·have hW:th8 d ⟨k,r,L,x,y,hd,mo,ti,l,more,a⟩=((rnsG d a k.toNat more.length L).1,.bad):=if_pos t1
   rw[hW,ja0 t1,ja1 t1]
   have hw:=eq_false t1
   repeat' first|exact hc|simp only[PB,SA,MB,seval,rdB,jac,jad,jao,jaB,jaC,jap,jaD,jaE,jab,jas,jat,jaL,jaM,jaw,tq0,tq1,tq2]|simp only[hw]|refine tT ?_|refine Cos.err (Cos.intro [0,1,2] [] rfl ?_)|refine And.intro ?_ ?_|exact tC|(refine tI ?_;intro hyp)|intro hyp0|omega)
end
end Go.Proofs.YtcfkfgkndncanaaGreatDoor
