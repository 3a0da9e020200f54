/- Texts of this claim, merged by a program of this claim: FQ3. -/
import Derived.Test.YtcfkfgkndncanaaGreatDoorMa33
import Derived.Test.YtcfkfgkndncanaaGreatDoorMa37
namespace Go.Proofs.YtcfkfgkndncanaaGreatDoor
set_option linter.unusedVariables false
set_option linter.unusedSimpArgs false
section
open Go.RowKit
set_option maxRecDepth 100000
set_option maxHeartbeats 4000000
abbrev jgM (k:Int) (r:Int) (L:List CD) (x:Int) (y:Int) (hd:Bool) (mo:Int) (ti:ByteArray) (l:List ByteArray) (d:List Int) (a:Nat) (kd:Int):List CV:=[.ptr 0 0 0,.int .i64 kd]
abbrev jgN (k:Int) (r:Int) (L:List CD) (x:Int) (y:Int) (hd:Bool) (mo:Int) (ti:ByteArray) (l:List ByteArray) (d:List Int) (a:Nat) (kd:Int):KH:=[RBs 2 3 k r L.length x y hd mo ti l.length,rdr d a 0,.seq .cell L,.seq .str l]
abbrev jox (k:Int) (r:Int) (L:List CD) (x:Int) (y:Int) (hd:Bool) (mo:Int) (ti:ByteArray) (l:List ByteArray) (d:List Int) (a:Nat) (kd:Int):Prop×Res×KH:=(RdOk d a∧Szd k r L∧(l.length≤16∧l.length≤16)∧(∀c∈L,CWf c)∧(kd≤5→∀c∈L,c.link≤l.length)∧(kd≤6→jcI k r L=true)∧(1≤kd∧kd≤4),.ret (.tup []),[RBs 5 4 (thG d kd ⟨k,r,L,x,y,hd,mo,ti,l,l,a⟩).2.k (thG d kd ⟨k,r,L,x,y,hd,mo,ti,l,l,a⟩).2.r (thG d kd ⟨k,r,L,x,y,hd,mo,ti,l,l,a⟩).2.L.length (thG d kd ⟨k,r,L,x,y,hd,mo,ti,l,l,a⟩).2.x (thG d kd ⟨k,r,L,x,y,hd,mo,ti,l,l,a⟩).2.y (thG d kd ⟨k,r,L,x,y,hd,mo,ti,l,l,a⟩).2.hd (thG d kd ⟨k,r,L,x,y,hd,mo,ti,l,l,a⟩).2.mo (thG d kd ⟨k,r,L,x,y,hd,mo,ti,l,l,a⟩).2.ti (thG d kd ⟨k,r,L,x,y,hd,mo,ti,l,l,a⟩).2.l.length,rdr d (thG d kd ⟨k,r,L,x,y,hd,mo,ti,l,l,a⟩).2.a 0,.dead,.dead,.seq .str (thG d kd ⟨k,r,L,x,y,hd,mo,ti,l,l,a⟩).2.l,.seq .cell (thG d kd ⟨k,r,L,x,y,hd,mo,ti,l,l,a⟩).2.L])
noncomputable def jjn:MSpec:=jcH (α:=Int×Int×(List CD)×Int×Int×Bool×Int×ByteArray×(List ByteArray)×(List Int)×Nat×Int) (fun⟨k,r,L,x,y,hd,mo,ti,l,d,a,kd⟩=>(jgM k r L x y hd mo ti l d a kd,jgN k r L x y hd mo ti l d a kd)) fun⟨k,r,L,x,y,hd,mo,ti,l,d,a,kd⟩=>jox k r L x y hd mo ti l d a kd
noncomputable def esp_thingS:ESpec:=jgW (α:=Int×Int×(List CD)×Int×Int×Bool×Int×ByteArray×(List ByteArray)×(List Int)×Nat×Int) (fun⟨k,r,L,x,y,hd,mo,ti,l,d,a,kd⟩=>(jgM k r L x y hd mo ti l d a kd,jgN k r L x y hd mo ti l d a kd)) fun⟨k,r,L,x,y,hd,mo,ti,l,d,a,kd⟩=>(thG d kd ⟨k,r,L,x,y,hd,mo,ti,l,l,a⟩).1
theorem jjo:InjM (α:=Int×Int×(List CD)×Int×Int×Bool×Int×ByteArray×(List ByteArray)×(List Int)×Nat×Int) (fun⟨k,r,L,x,y,hd,mo,ti,l,d,a,kd⟩=>(jgM k r L x y hd mo ti l d a kd,jgN k r L x y hd mo ti l d a kd)):=injM
theorem jaH (k:Int) (r:Int) (L:List CD) (x:Int) (y:Int) (hd:Bool) (mo:Int) (ti:ByteArray) (l:List ByteArray) (d:List Int) (a:Nat) (kd:Int):jjn (jgM k r L x y hd mo ti l d a kd) (jgN k r L x y hd mo ti l d a kd)=some (jox k r L x y hd mo ti l d a kd):=jbn _ jjo (k,r,L,x,y,hd,mo,ti,l,d,a,kd)
theorem jaI (k:Int) (r:Int) (L:List CD) (x:Int) (y:Int) (hd:Bool) (mo:Int) (ti:ByteArray) (l:List ByteArray) (d:List Int) (a:Nat) (kd:Int):esp_thingS (jgM k r L x y hd mo ti l d a kd) (jgN k r L x y hd mo ti l d a kd)=(thG d kd ⟨k,r,L,x,y,hd,mo,ti,l,l,a⟩).1:=jcJ _ jjo (k,r,L,x,y,hd,mo,ti,l,d,a,kd)
theorem jwQ:MutP Tryz.prog E0 29 jjn esp_thingS:=MutP.of jjo fun⟨k,r,L,x,y,hd,mo,ti,l,d,a,kd⟩ hG=>TF.intro (V:=(VV [(62,conP jif esp_uptoS),(60,conM msp_wvar),(61,conP jie esp_mustS),(63,conM msp_wtext),(48,conT [.any,.any] sp_pblank)] (.cons (jaa jbs) (MutP.soundP jsM) (.cons (jaa jb4) (MutF.soundM jkT) (.cons (jaa jbr) (MutP.soundP jsL) (.cons (jaa jdj) (MutF.soundM jsm) (.cons (jaa jey) (Fresh.soundT jwA) GOk.nil))))) 155 4)) jcc rfl rfl (by
 dsimp only[jgM,jgN,jox]at hG ⊢
 obtain⟨hr1,hz,⟨hl1,hl2⟩,hwf,hlk,hgr,hkd⟩:=hG
 have hle:=hz.le
 have hz0:=hz
 obtain⟨hk,hr,hl⟩:=hz
 have h3:=hr1.2.2
 obtain⟨s,hs⟩:∃s:RS,s=⟨k,r,L,x,y,hd,mo,ti,l,l,a⟩:=⟨_,rfl⟩
 obtain rfl|rfl|rfl|rfl:kd=1∨kd=2∨kd=3∨kd=4:=by omega
 ·have hT:thG d 1 ⟨k,r,L,x,y,hd,mo,ti,l,l,a⟩=th1 d ⟨k,r,L,x,y,hd,mo,ti,l,l,a⟩:=rfl
  rw[hT]
  obtain⟨a1,b1⟩:∃a1,a+varU d a=a1:=⟨_,rfl⟩
  obtain⟨a2,b2⟩:∃a2,a1+varU d a1=a2:=⟨_,rfl⟩
  have hr2:=jdQ hr1 b1
  have v1:=jar h3 a
  have v2:=jar h3 a1
  by_cases t1:varE d a=0
  case neg =>
   have hW:th1 d ⟨k,r,L,x,y,hd,mo,ti,l,l,a⟩=(varE d a,.bad):=by simp only[th1,t1,ne_eq,not_true_eq_false,not_false_eq_true,if_true,if_false]
   rw[hW,jbj t1,jbk t1]
   have hw:=And.intro b1 (eq_false t1)
   repeat' first|exact h3 _ ‹_›|exact hr1.1|exact hr1.2.1|simp only[PB,SA,MB,seval,rdB,jba,jbb,jaX,jbt,jbu,ja9,jbG,tq0,tq1,tq2]|simp only[hw]|refine tT ?_|refine Cos.err (Cos.intro [0,1,2,3] [] rfl ?_)|refine And.intro ?_ ?_|exact tC|(refine tI ?_;intro hyp)|intro hyp0|omega
  by_cases t2:varE d a1=0
  case neg =>
   have hW:th1 d ⟨k,r,L,x,y,hd,mo,ti,l,l,a⟩=(varE d a1,.bad):=by simp only[th1,b1,t1,t2,ne_eq,not_true_eq_false,not_false_eq_true,if_true,if_false]
   rw[hW,jbj t2,jbk t2]
   have hw:=And.intro b1 (And.intro t1 (eq_false t2))
   repeat' first|exact h3 _ ‹_›|exact hr1.1|exact hr1.2.1|exact hr2.1|simp only[PB,SA,MB,seval,rdB,jba,jbb,jaX,jbt,jbu,ja9,jbG,tq0,tq1,tq2]|simp only[hw]|refine tT ?_|refine Cos.err (Cos.intro [0,1,2,3] [] rfl ?_)|refine And.intro ?_ ?_|exact tC|(refine tI ?_;intro hyp)|intro hyp0|omega
  by_cases t3:80<varV d a∨24<varV d a1
  ·have hW:th1 d ⟨k,r,L,x,y,hd,mo,ti,l,l,a⟩=(3,.bad):=by
    have t5:80<varV d a∨24<varV d a1∨varV d a*varV d a1=0:=by omega
    simp only[th1,b1,t1,t2,ne_eq,not_true_eq_false,not_false_eq_true,if_true,if_false,if_pos t5]
   rw[hW,jbj (by decide),jbk (by decide)]
   have hw:=And.intro b1 (And.intro b2 (And.intro t1 t2))
   repeat' first|exact h3 _ ‹_›|exact hr1.1|exact hr1.2.1|exact hr2.1|simp only[PB,SA,MB,seval,rdB,jba,jbb,jaX,jbt,jbu,ja9,jbG,tq0,tq1,tq2]|simp only[hw]|refine tT ?_|refine Cos.err (Cos.intro [0,1,2,3] [] rfl ?_)|refine And.intro ?_ ?_|exact tC|(refine tI ?_;intro hyp)|intro hyp0|omega
   all_goals (exfalso;omega)
  have s1:=not_or.mp t3
  have hm:=jA0 (x:=varV d a) (y:=varV d a1) (by omega) (by omega)
  have hww:=And.intro (jf0 (n:=varV d a) (by omega)) (And.intro (jf0 (n:=varV d a1) (by omega)) (jmb (n:=varV d a*varV d a1) (by omega)))
  have hw:=And.intro b1 (And.intro b2 (And.intro t1 (And.intro t2 hww)))
  by_cases t4:varV d a*varV d a1=0
  ·have hW:th1 d ⟨k,r,L,x,y,hd,mo,ti,l,l,a⟩=(3,.bad):=by
    have t5:80<varV d a∨24<varV d a1∨varV d a*varV d a1=0:=by omega
    simp only[th1,b1,t1,t2,ne_eq,not_true_eq_false,not_false_eq_true,if_true,if_false,if_pos t5]
   rw[hW,jbj (by decide),jbk (by decide)]
   repeat' first|exact h3 _ ‹_›|exact hr1.1|exact hr1.2.1|exact hr2.1|simp only[PB,SA,MB,seval,rdB,jba,jbb,jaX,jbt,jbu,ja9,jbG,tq0,tq1,tq2]|simp only[hw]|refine tT ?_|refine Cos.err (Cos.intro [0,1,2,3] [] rfl ?_)|refine And.intro ?_ ?_|exact tC|(refine tI ?_;intro hyp)|intro hyp0|omega
   all_goals (exfalso;omega)
  ·have hW:th1 d ⟨k,r,L,x,y,hd,mo,ti,l,l,a⟩=(0,⟨varV d a,varV d a1,List.replicate ((varV d a).toNat*(varV d a1).toNat) blank0,0,0,false,0,bs [],[],[],a2⟩):=by
    have t5:¬(80<varV d a∨24<varV d a1∨varV d a*varV d a1=0):=by omega
    simp only[th1,b1,b2,t1,t2,ne_eq,not_true_eq_false,not_false_eq_true,if_true,if_false,if_neg t5]
   rw[hW,jcy rfl,jcz rfl]
   have hfit:=jsH (x:=varV d a) (y:=varV d a1) (by omega) (by omega) t4
   repeat' first|exact h3 _ ‹_›|exact hr1.1|exact hr1.2.1|exact hr2.1|exact hfit|simp only[PB,SA,MB,seval,rdB,jba,jbb,jaX,jbt,jbu,ja9,jbG,tq0,tq1,tq2]|simp only[hw]|refine tT ?_|refine Cos.intro [0,1,2,3,5,4] [] rfl ?_|refine And.intro ?_ ?_|exact tC|(refine tI ?_;intro hyp)|intro hyp0|omega
 ·have hT:thG d 2 ⟨k,r,L,x,y,hd,mo,ti,l,l,a⟩=th2 d ⟨k,r,L,x,y,hd,mo,ti,l,l,a⟩:=rfl
  rw[hT]
  obtain⟨a1,b1⟩:∃a1,a+varU d a=a1:=⟨_,rfl⟩
  obtain⟨a2,b2⟩:∃a2,a1+varU d a1=a2:=⟨_,rfl⟩
  obtain⟨a3,b3⟩:∃a3,a2+varU d a2=a3:=⟨_,rfl⟩
  have hr2:=jdQ hr1 b1
  have hr3:=jdQ hr2 b2
  have hr4:=jdQ hr3 b3
  by_cases t1:upE d a (k-1)=0
  case neg =>
   have hW:th2 d ⟨k,r,L,x,y,hd,mo,ti,l,l,a⟩=(upE d a (k-1),.bad):=by simp only[th2,b1,t1,ne_eq,not_true_eq_false,not_false_eq_true,if_true,if_false]
   rw[hW,jbj t1,jbk t1]
   have hw:=eq_false t1
   repeat' first|exact hr1|simp only[PB,SA,MB,seval,rdB,jba,jbb,jaX,jbt,jbu,ja9,jbG,tq0,tq1,tq2]|simp only[hw]|refine tT ?_|refine Cos.err (Cos.intro [0,1,2,3] [] rfl ?_)|refine And.intro ?_ ?_|exact tC|(refine tI ?_;intro hyp)|intro hyp0|omega
  by_cases t2:upE d a1 (r-1)=0
  case neg =>
   have hW:th2 d ⟨k,r,L,x,y,hd,mo,ti,l,l,a⟩=(upE d a1 (r-1),.bad):=by simp only[th2,b1,t1,t2,ne_eq,not_true_eq_false,not_false_eq_true,if_true,if_false]
   rw[hW,jbj t2,jbk t2]
   have hw:=And.intro (b1) (And.intro (t1) (eq_false t2))
   repeat' first|exact hr1|exact hr2|simp only[PB,SA,MB,seval,rdB,jba,jbb,jaX,jbt,jbu,ja9,jbG,tq0,tq1,tq2]|simp only[hw]|refine tT ?_|refine Cos.err (Cos.intro [0,1,2,3] [] rfl ?_)|refine And.intro ?_ ?_|exact tC|(refine tI ?_;intro hyp)|intro hyp0|omega
  by_cases t3:upE d a2 1=0
  case neg =>
   have hW:th2 d ⟨k,r,L,x,y,hd,mo,ti,l,l,a⟩=(upE d a2 1,.bad):=by simp only[th2,b1,b2,t1,t2,t3,ne_eq,not_true_eq_false,not_false_eq_true,if_true,if_false]
   rw[hW,jbj t3,jbk t3]
   have hw:=And.intro (b1) (And.intro (b2) (And.intro (t1) (And.intro (t2) (eq_false t3))))
   repeat' first|exact hr1|exact hr2|exact hr3|simp only[PB,SA,MB,seval,rdB,jba,jbb,jaX,jbt,jbu,ja9,jbG,tq0,tq1,tq2]|simp only[hw]|refine tT ?_|refine Cos.err (Cos.intro [0,1,2,3] [] rfl ?_)|refine And.intro ?_ ?_|exact tC|(refine tI ?_;intro hyp)|intro hyp0|omega
  have hW:th2 d ⟨k,r,L,x,y,hd,mo,ti,l,l,a⟩=(0,⟨k,r,L,varV d a,varV d a1,decide (varV d a2=1),mo,ti,l,l,a3⟩):=by simp only[th2,b1,b2,b3,t1,t2,t3,ne_eq,not_true_eq_false,not_false_eq_true,if_true,if_false]
  rw[hW,jcy rfl,jcz rfl]
  have hw:=And.intro b1 (And.intro b2 (And.intro b3 (And.intro t1 (And.intro t2 t3))))
  repeat' first|exact hr1|exact hr2|exact hr3|simp only[PB,SA,MB,seval,rdB,jba,jbb,jaX,jbt,jbu,ja9,jbG,tq0,tq1,tq2]|simp only[hw]|refine tT ?_|refine Cos.intro [0,1,2,3,3,2] [] rfl ?_|refine And.intro ?_ ?_|exact tC|(refine tI ?_;intro hyp)|intro hyp0|omega
 ·have hT:thG d 3 ⟨k,r,L,x,y,hd,mo,ti,l,l,a⟩=th3 d ⟨k,r,L,x,y,hd,mo,ti,l,l,a⟩:=rfl
  rw[hT]
  by_cases t1:jcB d a 64=0
  ·have hW:th3 d ⟨k,r,L,x,y,hd,mo,ti,l,l,a⟩=(0,⟨k,r,L,x,y,hd,mo,jbl (jcM d a 64),l,l,a+jcU d a 64⟩):=if_neg (by simp[t1])
   rw[hW,jcy rfl,jcz rfl]
   have hw:=t1
   repeat' first|exact h3 _ ‹_›|exact hr1.1|exact hr1.2.1|simp only[PB,SA,MB,seval,rdB,jba,jbb,jaX,jbt,jbu,ja9,jbG,tq0,tq1,tq2]|simp only[hw]|refine tT ?_|refine Cos.intro [0,1,2,3,3,2] [] rfl ?_|refine And.intro ?_ ?_|exact tC|(refine tI ?_;intro hyp)|intro hyp0|omega
  ·have hW:th3 d ⟨k,r,L,x,y,hd,mo,ti,l,l,a⟩=(jcB d a 64,.bad):=if_pos t1
   rw[hW,jbj t1,jbk t1]
   have hw:=eq_false t1
   repeat' first|exact h3 _ ‹_›|exact hr1.1|exact hr1.2.1|simp only[PB,SA,MB,seval,rdB,jba,jbb,jaX,jbt,jbu,ja9,jbG,tq0,tq1,tq2]|simp only[hw]|refine tT ?_|refine Cos.err (Cos.intro [0,1,2,3] [] rfl ?_)|refine And.intro ?_ ?_|exact tC|(refine tI ?_;intro hyp)|intro hyp0|omega
 ·have hT:thG d 4 ⟨k,r,L,x,y,hd,mo,ti,l,l,a⟩=th4 d ⟨k,r,L,x,y,hd,mo,ti,l,l,a⟩:=rfl
  rw[hT]
  by_cases t1:upE d a 2=0
  ·have u1:=jbe t1
   have v1:=jar h3 a
   have hW:th4 d ⟨k,r,L,x,y,hd,mo,ti,l,l,a⟩=(0,⟨k,r,L,x,y,hd,varV d a,ti,l,l,a+varU d a⟩):=if_neg (by simp[t1])
   rw[hW,jcy rfl,jcz rfl]
   have hw:=And.intro t1 (w_u8 (n:=varV d a) (by omega))
   repeat' first|exact hr1|simp only[PB,SA,MB,seval,rdB,jba,jbb,jaX,jbt,jbu,ja9,jbG,tq0,tq1,tq2]|simp only[hw]|refine tT ?_|refine Cos.intro [0,1,2,3,3,2] [] rfl ?_|refine And.intro ?_ ?_|exact tC|(refine tI ?_;intro hyp)|intro hyp0|omega
  ·have hW:th4 d ⟨k,r,L,x,y,hd,mo,ti,l,l,a⟩=(upE d a 2,.bad):=if_pos t1
   rw[hW,jbj t1,jbk t1]
   have hw:=eq_false t1
   repeat' first|exact hr1|simp only[PB,SA,MB,seval,rdB,jba,jbb,jaX,jbt,jbu,ja9,jbG,tq0,tq1,tq2]|simp only[hw]|refine tT ?_|refine Cos.err (Cos.intro [0,1,2,3] [] rfl ?_)|refine And.intro ?_ ?_|exact tC|(refine tI ?_;intro hyp)|intro hyp0|omega)
abbrev jgO (k:Int) (r:Int) (L:List CD) (x:Int) (y:Int) (hd:Bool) (mo:Int) (ti:ByteArray) (l:List ByteArray) (d:List Int) (a:Nat):List CV:=[.ptr 0 0 0,.int .i64 5]
abbrev jgP (k:Int) (r:Int) (L:List CD) (x:Int) (y:Int) (hd:Bool) (mo:Int) (ti:ByteArray) (l:List ByteArray) (d:List Int) (a:Nat):KH:=[RBs 2 3 k r L.length x y hd mo ti l.length,rdr d a 0,.seq .cell L,.seq .str l]
abbrev joy (k:Int) (r:Int) (L:List CD) (x:Int) (y:Int) (hd:Bool) (mo:Int) (ti:ByteArray) (l:List ByteArray) (d:List Int) (a:Nat):Prop×Res×KH:=(RdOk d a∧Szd k r L∧(l.length≤16∧l.length≤16)∧(∀c∈L,CWf c)∧(∀c∈L,c.link≤l.length)∧jcI k r L=true,.ret (.tup []),[RBd 5 3 4 (thG d 5 ⟨k,r,L,x,y,hd,mo,ti,l,l,a⟩).2.k (thG d 5 ⟨k,r,L,x,y,hd,mo,ti,l,l,a⟩).2.r (thG d 5 ⟨k,r,L,x,y,hd,mo,ti,l,l,a⟩).2.L.length (thG d 5 ⟨k,r,L,x,y,hd,mo,ti,l,l,a⟩).2.x (thG d 5 ⟨k,r,L,x,y,hd,mo,ti,l,l,a⟩).2.y (thG d 5 ⟨k,r,L,x,y,hd,mo,ti,l,l,a⟩).2.hd (thG d 5 ⟨k,r,L,x,y,hd,mo,ti,l,l,a⟩).2.mo (thG d 5 ⟨k,r,L,x,y,hd,mo,ti,l,l,a⟩).2.ti l.length (thG d 5 ⟨k,r,L,x,y,hd,mo,ti,l,l,a⟩).2.more.length,rdr d (thG d 5 ⟨k,r,L,x,y,hd,mo,ti,l,l,a⟩).2.a 0,.dead,.dead,.seq .str (thG d 5 ⟨k,r,L,x,y,hd,mo,ti,l,l,a⟩).2.more,.seq .cell (thG d 5 ⟨k,r,L,x,y,hd,mo,ti,l,l,a⟩).2.L])
noncomputable def jjp:MSpec:=jcH (α:=Int×Int×(List CD)×Int×Int×Bool×Int×ByteArray×(List ByteArray)×(List Int)×Nat) (fun⟨k,r,L,x,y,hd,mo,ti,l,d,a⟩=>(jgO k r L x y hd mo ti l d a,jgP k r L x y hd mo ti l d a)) fun⟨k,r,L,x,y,hd,mo,ti,l,d,a⟩=>joy k r L x y hd mo ti l d a
noncomputable def esp_thing5:ESpec:=jgW (α:=Int×Int×(List CD)×Int×Int×Bool×Int×ByteArray×(List ByteArray)×(List Int)×Nat) (fun⟨k,r,L,x,y,hd,mo,ti,l,d,a⟩=>(jgO k r L x y hd mo ti l d a,jgP k r L x y hd mo ti l d a)) fun⟨k,r,L,x,y,hd,mo,ti,l,d,a⟩=>(thG d 5 ⟨k,r,L,x,y,hd,mo,ti,l,l,a⟩).1
theorem jjq:InjM (α:=Int×Int×(List CD)×Int×Int×Bool×Int×ByteArray×(List ByteArray)×(List Int)×Nat) (fun⟨k,r,L,x,y,hd,mo,ti,l,d,a⟩=>(jgO k r L x y hd mo ti l d a,jgP k r L x y hd mo ti l d a)):=injM
theorem jaJ (k:Int) (r:Int) (L:List CD) (x:Int) (y:Int) (hd:Bool) (mo:Int) (ti:ByteArray) (l:List ByteArray) (d:List Int) (a:Nat):jjp (jgO k r L x y hd mo ti l d a) (jgP k r L x y hd mo ti l d a)=some (joy k r L x y hd mo ti l d a):=jbn _ jjq (k,r,L,x,y,hd,mo,ti,l,d,a)
theorem jaK (k:Int) (r:Int) (L:List CD) (x:Int) (y:Int) (hd:Bool) (mo:Int) (ti:ByteArray) (l:List ByteArray) (d:List Int) (a:Nat):esp_thing5 (jgO k r L x y hd mo ti l d a) (jgP k r L x y hd mo ti l d a)=(thG d 5 ⟨k,r,L,x,y,hd,mo,ti,l,l,a⟩).1:=jcJ _ jjq (k,r,L,x,y,hd,mo,ti,l,d,a)
theorem jwR:MutP Tryz.prog E0 29 jjp esp_thing5:=MutP.of jjq fun⟨k,r,L,x,y,hd,mo,ti,l,d,a⟩ hG=>TF.intro (V:=(VV [(64,conP jhA esp_rlinks5)] (.cons (jaa jdJ) (MutP.soundP jtH) GOk.nil) 155 4)) jcc rfl rfl (by
 dsimp only[jgO,jgP,joy]at hG ⊢
 obtain⟨hr1,hz,⟨hl1,hl2⟩,hwf,hlk,hgr⟩:=hG
 have hle:=hz.le
 have hz0:=hz
 obtain⟨hk,hr,hl⟩:=hz
 have h3:=hr1.2.2
 obtain⟨s,hs⟩:∃s:RS,s=⟨k,r,L,x,y,hd,mo,ti,l,l,a⟩:=⟨_,rfl⟩
 ·have hT:thG d 5 ⟨k,r,L,x,y,hd,mo,ti,l,l,a⟩=th5 d ⟨k,r,L,x,y,hd,mo,ti,l,l,a⟩:=rfl
  rw[hT]
  have hc:=And.intro hr1 (And.intro (And.intro (show L.length≤60000 by omega) hl1) (And.intro hwf hlk))
  by_cases t1:(lkG d a l).1=0
  ·have hlm:(L.map (ulf l (lkG d a l).2.2)).length=L.length:=List.length_map _
   have hW:th5 d ⟨k,r,L,x,y,hd,mo,ti,l,l,a⟩=(0,⟨k,r,L.map (ulf l (lkG d a l).2.2),x,y,hd,mo,ti,l,(lkG d a l).2.2,(lkG d a l).2.1⟩):=if_neg (by simp[t1])
   rw[hW,jcy rfl,jcz rfl]
   dsimp only
   rw[hlm]
   have hw:=t1
   repeat' first|exact hc|simp only[PB,SA,MB,seval,rdB,jg7,jg8,tq0,tq1,tq2]|simp only[hw]|refine tT ?_|refine Cos.intro [0,1,2,3,4,5] [] rfl ?_|refine And.intro ?_ ?_|exact tC|(refine tI ?_;intro hyp)|intro hyp0|omega
  ·have hW:th5 d ⟨k,r,L,x,y,hd,mo,ti,l,l,a⟩=((lkG d a l).1,.bad):=if_pos t1
   rw[hW,jbj t1,jbk t1]
   have hw:=eq_false t1
   repeat' first|exact hc|simp only[PB,SA,MB,seval,rdB,jg7,jg8,tq0,tq1,tq2]|simp only[hw]|refine tT ?_|refine Cos.err (Cos.intro [0,1,2,3] [] rfl ?_)|refine And.intro ?_ ?_|exact tC|(refine tI ?_;intro hyp)|intro hyp0|omega)
abbrev jgQ (k:Int) (r:Int) (L:List CD) (x:Int) (y:Int) (hd:Bool) (mo:Int) (ti:ByteArray) (ll:Nat) (more:List ByteArray) (d:List Int) (a:Nat) (kd:Int):List CV:=[.ptr 0 0 0,.int .i64 kd]
abbrev jgR (k:Int) (r:Int) (L:List CD) (x:Int) (y:Int) (hd:Bool) (mo:Int) (ti:ByteArray) (ll:Nat) (more:List ByteArray) (d:List Int) (a:Nat) (kd:Int):KH:=[RBd 2 3 4 k r L.length x y hd mo ti ll more.length,rdr d a 0,.seq .cell L,.dead,.seq .str more]
abbrev joz (k:Int) (r:Int) (L:List CD) (x:Int) (y:Int) (hd:Bool) (mo:Int) (ti:ByteArray) (ll:Nat) (more:List ByteArray) (d:List Int) (a:Nat) (kd:Int):Prop×Res×KH:=(RdOk d a∧Szd k r L∧(more.length≤16∧more.length≤16)∧(∀c∈L,CWf c)∧True∧(kd≤6→jcI k r L=true)∧(6≤kd∧kd≤8),.ret (.tup []),[RBd 6 3 5 (thG d kd ⟨k,r,L,x,y,hd,mo,ti,[],more,a⟩).2.k (thG d kd ⟨k,r,L,x,y,hd,mo,ti,[],more,a⟩).2.r (thG d kd ⟨k,r,L,x,y,hd,mo,ti,[],more,a⟩).2.L.length (thG d kd ⟨k,r,L,x,y,hd,mo,ti,[],more,a⟩).2.x (thG d kd ⟨k,r,L,x,y,hd,mo,ti,[],more,a⟩).2.y (thG d kd ⟨k,r,L,x,y,hd,mo,ti,[],more,a⟩).2.hd (thG d kd ⟨k,r,L,x,y,hd,mo,ti,[],more,a⟩).2.mo (thG d kd ⟨k,r,L,x,y,hd,mo,ti,[],more,a⟩).2.ti ll (thG d kd ⟨k,r,L,x,y,hd,mo,ti,[],more,a⟩).2.more.length,rdr d (thG d kd ⟨k,r,L,x,y,hd,mo,ti,[],more,a⟩).2.a 0,.dead,.dead,.dead,.seq .str (thG d kd ⟨k,r,L,x,y,hd,mo,ti,[],more,a⟩).2.more,.seq .cell (thG d kd ⟨k,r,L,x,y,hd,mo,ti,[],more,a⟩).2.L])
noncomputable def jjr:MSpec:=jcH (α:=Int×Int×(List CD)×Int×Int×Bool×Int×ByteArray×Nat×(List ByteArray)×(List Int)×Nat×Int) (fun⟨k,r,L,x,y,hd,mo,ti,ll,more,d,a,kd⟩=>(jgQ k r L x y hd mo ti ll more d a kd,jgR k r L x y hd mo ti ll more d a kd)) fun⟨k,r,L,x,y,hd,mo,ti,ll,more,d,a,kd⟩=>joz k r L x y hd mo ti ll more d a kd
noncomputable def esp_thingD:ESpec:=jgW (α:=Int×Int×(List CD)×Int×Int×Bool×Int×ByteArray×Nat×(List ByteArray)×(List Int)×Nat×Int) (fun⟨k,r,L,x,y,hd,mo,ti,ll,more,d,a,kd⟩=>(jgQ k r L x y hd mo ti ll more d a kd,jgR k r L x y hd mo ti ll more d a kd)) fun⟨k,r,L,x,y,hd,mo,ti,ll,more,d,a,kd⟩=>(thG d kd ⟨k,r,L,x,y,hd,mo,ti,[],more,a⟩).1
theorem jjs:InjM (α:=Int×Int×(List CD)×Int×Int×Bool×Int×ByteArray×Nat×(List ByteArray)×(List Int)×Nat×Int) (fun⟨k,r,L,x,y,hd,mo,ti,ll,more,d,a,kd⟩=>(jgQ k r L x y hd mo ti ll more d a kd,jgR k r L x y hd mo ti ll more d a kd)):=injM
theorem jaL (k:Int) (r:Int) (L:List CD) (x:Int) (y:Int) (hd:Bool) (mo:Int) (ti:ByteArray) (ll:Nat) (more:List ByteArray) (d:List Int) (a:Nat) (kd:Int):jjr (jgQ k r L x y hd mo ti ll more d a kd) (jgR k r L x y hd mo ti ll more d a kd)=some (joz k r L x y hd mo ti ll more d a kd):=jbn _ jjs (k,r,L,x,y,hd,mo,ti,ll,more,d,a,kd)
theorem jaM (k:Int) (r:Int) (L:List CD) (x:Int) (y:Int) (hd:Bool) (mo:Int) (ti:ByteArray) (ll:Nat) (more:List ByteArray) (d:List Int) (a:Nat) (kd:Int):esp_thingD (jgQ k r L x y hd mo ti ll more d a kd) (jgR k r L x y hd mo ti ll more d a kd)=(thG d kd ⟨k,r,L,x,y,hd,mo,ti,[],more,a⟩).1:=jcJ _ jjs (k,r,L,x,y,hd,mo,ti,ll,more,d,a,kd)
theorem jwS:MutP Tryz.prog E0 29 jjr esp_thingD:=MutP.of jjs fun⟨k,r,L,x,y,hd,mo,ti,ll,more,d,a,kd⟩ hG=>TF.intro (V:=(VV [(62,conP jfo esp_uptoD),(65,conM msp_mscrolledD),(66,conP jgp esp_rcopiesD),(67,conP jjl esp_rrunsD)] (.cons (jaa jbs) (MutP.soundP jkf) (.cons (jaa jd1) (MutF.soundM jov) (.cons (jaa jds) (MutP.soundP jrB) (.cons (jaa jd5) (MutP.soundP jwP) GOk.nil)))) 155 5)) jcc rfl rfl (by
 dsimp only[jgQ,jgR,joz]at hG ⊢
 obtain⟨hr1,hz,⟨hl1,hl2⟩,hwf,hlk,hgr,hkd⟩:=hG
 have hle:=hz.le
 have hz0:=hz
 obtain⟨hk,hr,hl⟩:=hz
 have h3:=hr1.2.2
 obtain⟨s,hs⟩:∃s:RS,s=⟨k,r,L,x,y,hd,mo,ti,[],more,a⟩:=⟨_,rfl⟩
 obtain rfl|rfl|rfl:kd=6∨kd=7∨kd=8:=by omega
 ·have hT:thG d 6 ⟨k,r,L,x,y,hd,mo,ti,[],more,a⟩=th6 d ⟨k,r,L,x,y,hd,mo,ti,[],more,a⟩:=rfl
  rw[hT]
  have hgr':=hgr (by decide)
  obtain⟨a1,b1⟩:∃a1,a+varU d a=a1:=⟨_,rfl⟩
  have v1:=jar h3 a
  by_cases t1:upE d a (2*r-2)=0
  case neg =>
   have hW:th6 d ⟨k,r,L,x,y,hd,mo,ti,[],more,a⟩=(upE d a (2*r-2),.bad):=by simp only[th6,b1,t1,ne_eq,not_true_eq_false,not_false_eq_true,if_true,if_false]
   rw[hW,jbj t1,jbk t1]
   have hw:=eq_false t1
   repeat' first|exact hr1|simp only[PB,SA,MB,seval,rdB,jam,jan,jbH,jbX,jbY,jch,jci,tq0,tq1,tq2]|simp only[hw]|refine tT ?_|refine Cos.err (Cos.intro [0,1,2,3,4] [] rfl ?_)|refine And.intro ?_ ?_|exact tC|(refine tI ?_;intro hyp)|intro hyp0|omega
  have u1:=jbe t1
  by_cases t2:varV d a=0
  ·have hW:th6 d ⟨k,r,L,x,y,hd,mo,ti,[],more,a⟩=(3,.bad):=by simp only[th6,t1,t2,ne_eq,not_true_eq_false,not_false_eq_true,if_true,if_false]
   rw[hW,jbj (by decide),jbk (by decide)]
   have hw:=And.intro t1 t2
   repeat' first|exact hr1|simp only[PB,SA,MB,seval,rdB,jam,jan,jbH,jbX,jbY,jch,jci,tq0,tq1,tq2]|simp only[hw]|refine tT ?_|refine Cos.err (Cos.intro [0,1,2,3,4] [] rfl ?_)|refine And.intro ?_ ?_|exact tC|(refine tI ?_;intro hyp)|intro hyp0|omega
  ·have hW:th6 d ⟨k,r,L,x,y,hd,mo,ti,[],more,a⟩=(0,⟨k,r,(jcl (jbv L k.toNat r.toNat) (ji3 (varV d a))).flatten,x,y,hd,mo,ti,[],more,a1⟩):=by simp only[th6,t1,t2,b1,ne_eq,not_true_eq_false,not_false_eq_true,if_true,if_false]
   rw[hW,jcy rfl,jcz rfl]
   have hcw:CWs L:=fun c hc=>(hwf c hc).1
   by_cases hpar:varV d a % 2=0
   ·rw[ji3,if_pos hpar]
    have hw:=And.intro t1 (And.intro (eq_false t2) (And.intro b1 hpar))
    repeat' first|exact hr1|exact hgr'|exact hcw _ ‹_›|simp only[PB,SA,MB,seval,rdB,jam,jan,jbH,jbX,jbY,jch,jci,tq0,tq1,tq2]|simp only[hw]|refine tT ?_|refine Cos.intro [0,1,2,3,4,4,5] [] rfl ?_|refine And.intro ?_ ?_|exact tC|(refine tI ?_;intro hyp)|intro hyp0|omega
   ·rw[ji3,if_neg hpar]
    have hw:=And.intro t1 (And.intro (eq_false t2) (And.intro b1 (eq_false hpar)))
    repeat' first|exact hr1|exact hgr'|exact hcw _ ‹_›|simp only[PB,SA,MB,seval,rdB,jam,jan,jbH,jbX,jbY,jch,jci,tq0,tq1,tq2]|simp only[hw]|refine tT ?_|refine Cos.intro [0,1,2,3,4,4,5] [] rfl ?_|refine And.intro ?_ ?_|exact tC|(refine tI ?_;intro hyp)|intro hyp0|omega
 ·have hT:thG d 7 ⟨k,r,L,x,y,hd,mo,ti,[],more,a⟩=th7 d ⟨k,r,L,x,y,hd,mo,ti,[],more,a⟩:=rfl
  rw[hT]
  have hc:=And.intro hr1 hz0
  by_cases t1:(cpsG d a k.toNat r.toNat L).1=0
  ·have hlm:=jwC (d:=d) (a:=a) hz0 hr1.2.2 hr1.1 t1
   have hW:th7 d ⟨k,r,L,x,y,hd,mo,ti,[],more,a⟩=(0,⟨k,r,(cpsG d a k.toNat r.toNat L).2.2,x,y,hd,mo,ti,[],more,(cpsG d a k.toNat r.toNat L).2.1⟩):=if_neg (by simp[t1])
   rw[hW,jcy rfl,jcz rfl]
   dsimp only
   rw[hlm]
   have hw:=t1
   repeat' first|exact hc|simp only[PB,SA,MB,seval,rdB,jam,jan,jbH,jbX,jbY,jch,jci,tq0,tq1,tq2]|simp only[hw]|refine tT ?_|refine Cos.intro [0,1,2,3,4,5,6] [] rfl ?_|refine And.intro ?_ ?_|exact tC|(refine tI ?_;intro hyp)|intro hyp0|omega
  ·have hW:th7 d ⟨k,r,L,x,y,hd,mo,ti,[],more,a⟩=((cpsG d a k.toNat r.toNat L).1,.bad):=if_pos t1
   rw[hW,jbj t1,jbk t1]
   have hw:=eq_false t1
   repeat' first|exact hc|simp only[PB,SA,MB,seval,rdB,jam,jan,jbH,jbX,jbY,jch,jci,tq0,tq1,tq2]|simp only[hw]|refine tT ?_|refine Cos.err (Cos.intro [0,1,2,3,4] [] rfl ?_)|refine And.intro ?_ ?_|exact tC|(refine tI ?_;intro hyp)|intro hyp0|omega
 ·have hT:thG d 8 ⟨k,r,L,x,y,hd,mo,ti,[],more,a⟩=th8 d ⟨k,r,L,x,y,hd,mo,ti,[],more,a⟩:=rfl
  rw[hT]
  have hc:=And.intro hr1 (And.intro hz0 hl2)
  by_cases t1:(rnsG d a k.toNat more.length L).1=0
  ·have hlm:=jwD (d:=d) (a:=a) (k:=k.toNat) (nl:=more.length) hr1.1 t1
   have hW:th8 d ⟨k,r,L,x,y,hd,mo,ti,[],more,a⟩=(0,⟨k,r,(rnsG d a k.toNat more.length L).2.2,x,y,hd,mo,ti,[],more,(rnsG d a k.toNat more.length L).2.1⟩):=if_neg (by simp[t1])
   rw[hW,jcy rfl,jcz rfl]
   dsimp only
   rw[hlm]
   have hw:=t1
   repeat' first|exact hc|simp only[PB,SA,MB,seval,rdB,jam,jan,jbH,jbX,jbY,jch,jci,tq0,tq1,tq2]|simp only[hw]|refine tT ?_|refine Cos.intro [0,1,2,3,4,5,6] [] rfl ?_|refine And.intro ?_ ?_|exact tC|(refine tI ?_;intro hyp)|intro hyp0|omega
  ·have hW:th8 d ⟨k,r,L,x,y,hd,mo,ti,[],more,a⟩=((rnsG d a k.toNat more.length L).1,.bad):=if_pos t1
   rw[hW,jbj t1,jbk t1]
   have hw:=eq_false t1
   repeat' first|exact hc|simp only[PB,SA,MB,seval,rdB,jam,jan,jbH,jbX,jbY,jch,jci,tq0,tq1,tq2]|simp only[hw]|refine tT ?_|refine Cos.err (Cos.intro [0,1,2,3,4] [] rfl ?_)|refine And.intro ?_ ?_|exact tC|(refine tI ?_;intro hyp)|intro hyp0|omega)
end
end Go.Proofs.YtcfkfgkndncanaaGreatDoor
