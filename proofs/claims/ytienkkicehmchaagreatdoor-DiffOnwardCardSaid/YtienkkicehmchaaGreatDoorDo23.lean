/- Texts of this claim, merged by a program of this claim: FThing, KeepM. -/
import Derived.Test.YtienkkicehmchaaGreatDoorDo17
import Derived.Test.YtienkkicehmchaaGreatDoorDo18
import Derived.Test.YtienkkicehmchaaGreatDoorDo22
import Derived.Test.YtienkkicehmchaaGreatDoorDo6
namespace Go.Proofs.YtienkkicehmchaaGreatDoor
open And renaming intro→qaa
open Cos renaming intro→qab,err→qac
noncomputable section
set_option linter.unusedVariables false
set_option linter.unusedSimpArgs false
section
open Go.RowKit
set_option maxRecDepth 100000
set_option maxHeartbeats 4000000
theorem jyb {x y:Int}(hx:0≤x∧x≤80) (hy:0≤y∧y≤24):0≤x*y∧x*y≤1920 :=
 ⟨Int.mul_nonneg hx.1 hy.1,Int.le_trans (Int.mul_le_mul hx.2 hy.2 hy.1 (by decide)) (by decide)⟩
theorem jqN {x y:Int}(hx:0≤x∧x≤80) (hy:0≤y∧y≤24) (h:¬x*y=0):jbr x y=true:=by
 have hx0:x≠0:=fun e=>h (by rw[e,Int.zero_mul])
 have hy0:y≠0:=fun e=>h (by rw[e,Int.mul_zero])
 simp only[jbr,Bool.and_eq_true,decide_eq_true_eq]
 omega
theorem juW {d:List Int}{a:Nat}{k r:Int}{L:List CD}(hz:Szd k r L) (hb:Bts d) (ha:a≤d.length) (h:(cpsG d a k.toNat r.toNat L).1=0):(cpsG d a k.toNat r.toNat L).2.2.length=L.length:=by
 unfold cpsG at h ⊢
 split at h
 ·rename_i q
  exact absurd h q
 ·rename_i q
  rw[if_neg q]
  exact (jmN k.toNat r.toNat L hz.2.2 hb _ _ _ _ (jaz ha) hz.2.2).2 h
theorem juX {d:List Int}{a k nl:Nat}{L:List CD}(ha:a≤d.length) (h:(rnsG d a k nl L).1=0):(rnsG d a k nl L).2.2.length=L.length:=by
 unfold rnsG at h ⊢
 split at h
 ·rename_i q
  exact absurd h q
 ·rename_i q
  rw[if_neg q]
  exact (jmM k nl _ _ _ _ (jaz ha)).2 h
abbrev q_thing (k r:Int) (L:List CD) (x y:Int) (hd:Bool) (mo:Int) (ti:ByteArray) (l more:List ByteArray) (d:List Int) (a:Nat) (kd:Int):QP:=(([.ptr 0 0 0,.int .i64 kd],[RB 2 k r L.length x y hd mo ti l more,rdr d a 0,.seq .cell L]),(thG d kd ⟨k,r,L,x,y,hd,mo,ti,l,more,a⟩).1,RdOk d a∧Szd k r L∧(l.length≤16∧more.length≤16)∧(∀c∈L,CWf c)∧(kd≤5→∀c∈L,c.link≤l.length)∧(kd≤6→jbo k r L=true)∧(1≤kd∧kd≤8),.ret (.tup []),[RB 3 (thG d kd ⟨k,r,L,x,y,hd,mo,ti,l,more,a⟩).2.k (thG d kd ⟨k,r,L,x,y,hd,mo,ti,l,more,a⟩).2.r (thG d kd ⟨k,r,L,x,y,hd,mo,ti,l,more,a⟩).2.L.length (thG d kd ⟨k,r,L,x,y,hd,mo,ti,l,more,a⟩).2.x (thG d kd ⟨k,r,L,x,y,hd,mo,ti,l,more,a⟩).2.y (thG d kd ⟨k,r,L,x,y,hd,mo,ti,l,more,a⟩).2.hd (thG d kd ⟨k,r,L,x,y,hd,mo,ti,l,more,a⟩).2.mo (thG d kd ⟨k,r,L,x,y,hd,mo,ti,l,more,a⟩).2.ti (thG d kd ⟨k,r,L,x,y,hd,mo,ti,l,more,a⟩).2.l (thG d kd ⟨k,r,L,x,y,hd,mo,ti,l,more,a⟩).2.more,rdr d (thG d kd ⟨k,r,L,x,y,hd,mo,ti,l,more,a⟩).2.a 0,.dead,.seq .cell (thG d kd ⟨k,r,L,x,y,hd,mo,ti,l,more,a⟩).2.L])
def msp_thing:=mspR (u13 q_thing)
def esp_thing:=espR (u13 q_thing)
theorem jok:InP (u13 q_thing):=injM
theorem jol:W13 (hP msp_thing esp_thing) q_thing:=w13 (aP rfl rfl jok)
theorem jxp:Mp 152 msp_thing esp_thing:=ofP (u13 q_thing) jok fun⟨k,r,L,x,y,hd,mo,ti,l,more,d,a,kd⟩ hG=>tfi (.p jaL jkn (.m jaG jgP (.p jaK jpw (.m jbx jmU (.p jcK juU (.t jiF jcP jiG (.p jco jsi (.p jcR jxo (.t [.any,.any] jaT jez .nil))))))))) 3 jcM (by
 dsimp only[u13,q_thing]at hG ⊢
 have zc:=Hk.mk (qaa @jdn (qaa @jbV (qaa @jgQ (qaa @jfE (qaa @jmV (qaa @jfB (qaa @jkU (qaa @joj (qaa @jb3 (qaa @tq0 (qaa @tq1 @tq2)))))))))))
 obtain⟨hr1,hz,⟨hl1,hl2⟩,hwf,hlk,hgr,hkd⟩:=hG
 have hle:=hz.le
 have hz0:=hz
 obtain⟨hk,hr,hl⟩:=hz
 have h3:=hr1.2.2
 obtain⟨s,hs⟩:∃s:RS,s=⟨k,r,L,x,y,hd,mo,ti,l,more,a⟩:=⟨_,rfl⟩
 obtain rfl|rfl|rfl|rfl|rfl|rfl|rfl|rfl:kd=1∨kd=2∨kd=3∨kd=4∨kd=5∨kd=6∨kd=7∨kd=8:=by omega
 ·have hT:thG d 1 ⟨k,r,L,x,y,hd,mo,ti,l,more,a⟩=th1 d ⟨k,r,L,x,y,hd,mo,ti,l,more,a⟩:=rfl
  rw[hT]
  obtain⟨a1,b1⟩:∃a1,a+varU d a=a1:=⟨_,rfl⟩
  obtain⟨a2,b2⟩:∃a2,a1+varU d a1=a2:=⟨_,rfl⟩
  have hr2:=jd3 hr1 b1
  have v1:=jae h3 a
  have v2:=jae h3 a1
  by_cases t1:varE d a=0
  case neg =>
   have hW:th1 d ⟨k,r,L,x,y,hd,mo,ti,l,more,a⟩=(varE d a,.bad):=by simp only[th1,t1,ne_eq,not_true_eq_false,not_false_eq_true,if_true,if_false]
   rw[hW,jaf t1,jag t1]
   have hw:=qaa b1 (eq_false t1)
   repeat' first|exact h3 _ ‹_›|exact hr1.1|exact hr1.2.1|refine tU ?_|refine qac (qab [0,1,2] [] rfl ?_)|refine qaa ?_ ?_|(refine tI ?_;intro hyp)|intro hyp0|exact tZ|omega
  by_cases t2:varE d a1=0
  case neg =>
   have hW:th1 d ⟨k,r,L,x,y,hd,mo,ti,l,more,a⟩=(varE d a1,.bad):=by simp only[th1,b1,t1,t2,ne_eq,not_true_eq_false,not_false_eq_true,if_true,if_false]
   rw[hW,jaf t2,jag t2]
   have hw:=qaa b1 (qaa t1 (eq_false t2))
   repeat' first|exact h3 _ ‹_›|exact hr1.1|exact hr1.2.1|exact hr2.1|refine tU ?_|refine qac (qab [0,1,2] [] rfl ?_)|refine qaa ?_ ?_|(refine tI ?_;intro hyp)|intro hyp0|exact tZ|omega
  by_cases t3:80<varV d a∨24<varV d a1
  ·have hW:th1 d ⟨k,r,L,x,y,hd,mo,ti,l,more,a⟩=(3,.bad):=by
    have t5:80<varV d a∨24<varV d a1∨varV d a*varV d a1=0:=by omega
    simp only[th1,b1,t1,t2,ne_eq,not_true_eq_false,not_false_eq_true,if_true,if_false,if_pos t5]
   rw[hW,jaf (by decide),jag (by decide)]
   have hw:=qaa b1 (qaa b2 (qaa t1 t2))
   repeat' first|exact h3 _ ‹_›|exact hr1.1|exact hr1.2.1|exact hr2.1|refine tU ?_|refine qac (qab [0,1,2] [] rfl ?_)|refine qaa ?_ ?_|(refine tI ?_;intro hyp)|intro hyp0|exact tZ|omega
   all_goals (exfalso;omega)
  have s1:=not_or.mp t3
  have hm:=jyb (x:=varV d a) (y:=varV d a1) (by omega) (by omega)
  have hww:=qaa (jf7 (n:=varV d a) (by omega)) (qaa (jf7 (n:=varV d a1) (by omega)) (jhd (n:=varV d a*varV d a1) (by omega)))
  have hw:=qaa b1 (qaa b2 (qaa t1 (qaa t2 hww)))
  by_cases t4:varV d a*varV d a1=0
  ·have hW:th1 d ⟨k,r,L,x,y,hd,mo,ti,l,more,a⟩=(3,.bad):=by
    have t5:80<varV d a∨24<varV d a1∨varV d a*varV d a1=0:=by omega
    simp only[th1,b1,t1,t2,ne_eq,not_true_eq_false,not_false_eq_true,if_true,if_false,if_pos t5]
   rw[hW,jaf (by decide),jag (by decide)]
   repeat' first|exact h3 _ ‹_›|exact hr1.1|exact hr1.2.1|exact hr2.1|refine tU ?_|refine qac (qab [0,1,2] [] rfl ?_)|refine qaa ?_ ?_|(refine tI ?_;intro hyp)|intro hyp0|exact tZ|omega
   all_goals (exfalso;omega)
  ·have hW:th1 d ⟨k,r,L,x,y,hd,mo,ti,l,more,a⟩=(0,⟨varV d a,varV d a1,List.replicate ((varV d a).toNat*(varV d a1).toNat) blank0,0,0,false,0,bs [],[],[],a2⟩):=by
    have t5:¬(80<varV d a∨24<varV d a1∨varV d a*varV d a1=0):=by omega
    simp only[th1,b1,b2,t1,t2,ne_eq,not_true_eq_false,not_false_eq_true,if_true,if_false,if_neg t5]
   rw[hW,jaR rfl,jaS rfl]
   have hfit:=jqN (x:=varV d a) (y:=varV d a1) (by omega) (by omega) t4
   repeat' first|exact h3 _ ‹_›|exact hr1.1|exact hr1.2.1|exact hr2.1|exact hfit|refine tU ?_|refine qab [0,1,2,3] [4] rfl ?_|refine qaa ?_ ?_|(refine tI ?_;intro hyp)|intro hyp0|exact tZ|omega
 ·have hT:thG d 2 ⟨k,r,L,x,y,hd,mo,ti,l,more,a⟩=th2 d ⟨k,r,L,x,y,hd,mo,ti,l,more,a⟩:=rfl
  rw[hT]
  obtain⟨a1,b1⟩:∃a1,a+varU d a=a1:=⟨_,rfl⟩
  obtain⟨a2,b2⟩:∃a2,a1+varU d a1=a2:=⟨_,rfl⟩
  obtain⟨a3,b3⟩:∃a3,a2+varU d a2=a3:=⟨_,rfl⟩
  have hr2:=jd3 hr1 b1
  have hr3:=jd3 hr2 b2
  have hr4:=jd3 hr3 b3
  by_cases t1:upE d a (k-1)=0
  case neg =>
   have hW:th2 d ⟨k,r,L,x,y,hd,mo,ti,l,more,a⟩=(upE d a (k-1),.bad):=by simp only[th2,b1,t1,ne_eq,not_true_eq_false,not_false_eq_true,if_true,if_false]
   rw[hW,jaf t1,jag t1]
   have hw:=eq_false t1
   repeat' first|exact hr1|refine tU ?_|refine qac (qab [0,1,2] [] rfl ?_)|refine qaa ?_ ?_|(refine tI ?_;intro hyp)|intro hyp0|exact tZ|omega
  by_cases t2:upE d a1 (r-1)=0
  case neg =>
   have hW:th2 d ⟨k,r,L,x,y,hd,mo,ti,l,more,a⟩=(upE d a1 (r-1),.bad):=by simp only[th2,b1,t1,t2,ne_eq,not_true_eq_false,not_false_eq_true,if_true,if_false]
   rw[hW,jaf t2,jag t2]
   have hw:=qaa (b1) (qaa (t1) (eq_false t2))
   repeat' first|exact hr1|exact hr2|refine tU ?_|refine qac (qab [0,1,2] [] rfl ?_)|refine qaa ?_ ?_|(refine tI ?_;intro hyp)|intro hyp0|exact tZ|omega
  by_cases t3:upE d a2 1=0
  case neg =>
   have hW:th2 d ⟨k,r,L,x,y,hd,mo,ti,l,more,a⟩=(upE d a2 1,.bad):=by simp only[th2,b1,b2,t1,t2,t3,ne_eq,not_true_eq_false,not_false_eq_true,if_true,if_false]
   rw[hW,jaf t3,jag t3]
   have hw:=qaa (b1) (qaa (b2) (qaa (t1) (qaa (t2) (eq_false t3))))
   repeat' first|exact hr1|exact hr2|exact hr3|refine tU ?_|refine qac (qab [0,1,2] [] rfl ?_)|refine qaa ?_ ?_|(refine tI ?_;intro hyp)|intro hyp0|exact tZ|omega
  have hW:th2 d ⟨k,r,L,x,y,hd,mo,ti,l,more,a⟩=(0,⟨k,r,L,varV d a,varV d a1,decide (varV d a2=1),mo,ti,l,more,a3⟩):=by simp only[th2,b1,b2,b3,t1,t2,t3,ne_eq,not_true_eq_false,not_false_eq_true,if_true,if_false]
  rw[hW,jaR rfl,jaS rfl]
  have hw:=qaa b1 (qaa b2 (qaa b3 (qaa t1 (qaa t2 t3))))
  repeat' first|exact hr1|exact hr2|exact hr3|refine tU ?_|refine qab [0,1,2,2] [] rfl ?_|refine qaa ?_ ?_|(refine tI ?_;intro hyp)|intro hyp0|exact tZ|omega
 ·have hT:thG d 3 ⟨k,r,L,x,y,hd,mo,ti,l,more,a⟩=th3 d ⟨k,r,L,x,y,hd,mo,ti,l,more,a⟩:=rfl
  rw[hT]
  by_cases t1:jcv d a 64=0
  ·have hW:th3 d ⟨k,r,L,x,y,hd,mo,ti,l,more,a⟩=(0,⟨k,r,L,x,y,hd,mo,jas (jdz d a 64),l,more,a+jdA d a 64⟩):=if_neg (by simp[t1])
   rw[hW,jaR rfl,jaS rfl]
   have hw:=t1
   repeat' first|exact h3 _ ‹_›|exact hr1.1|exact hr1.2.1|refine tU ?_|refine qab [0,1,2,2] [] rfl ?_|refine qaa ?_ ?_|(refine tI ?_;intro hyp)|intro hyp0|exact tZ|omega
  ·have hW:th3 d ⟨k,r,L,x,y,hd,mo,ti,l,more,a⟩=(jcv d a 64,.bad):=if_pos t1
   rw[hW,jaf t1,jag t1]
   have hw:=eq_false t1
   repeat' first|exact h3 _ ‹_›|exact hr1.1|exact hr1.2.1|refine tU ?_|refine qac (qab [0,1,2] [] rfl ?_)|refine qaa ?_ ?_|(refine tI ?_;intro hyp)|intro hyp0|exact tZ|omega
 ·have hT:thG d 4 ⟨k,r,L,x,y,hd,mo,ti,l,more,a⟩=th4 d ⟨k,r,L,x,y,hd,mo,ti,l,more,a⟩:=rfl
  rw[hT]
  by_cases t1:upE d a 2=0
  ·have u1:=jaQ t1
   have v1:=jae h3 a
   have hW:th4 d ⟨k,r,L,x,y,hd,mo,ti,l,more,a⟩=(0,⟨k,r,L,x,y,hd,varV d a,ti,l,more,a+varU d a⟩):=if_neg (by simp[t1])
   rw[hW,jaR rfl,jaS rfl]
   have hw:=qaa t1 (w_u8 (n:=varV d a) (by omega))
   repeat' first|exact hr1|refine tU ?_|refine qab [0,1,2,2] [] rfl ?_|refine qaa ?_ ?_|(refine tI ?_;intro hyp)|intro hyp0|exact tZ|omega
  ·have hW:th4 d ⟨k,r,L,x,y,hd,mo,ti,l,more,a⟩=(upE d a 2,.bad):=if_pos t1
   rw[hW,jaf t1,jag t1]
   have hw:=eq_false t1
   repeat' first|exact hr1|refine tU ?_|refine qac (qab [0,1,2] [] rfl ?_)|refine qaa ?_ ?_|(refine tI ?_;intro hyp)|intro hyp0|exact tZ|omega
 ·have hT:thG d 5 ⟨k,r,L,x,y,hd,mo,ti,l,more,a⟩=th5 d ⟨k,r,L,x,y,hd,mo,ti,l,more,a⟩:=rfl
  rw[hT]
  have hc:=qaa hr1 (qaa (qaa (show L.length≤60000 by omega) hl1) (qaa hwf (hlk (by decide))))
  by_cases t1:(lkG d a l).1=0
  ·have hlm:(L.map (ulf l (lkG d a l).2.2)).length=L.length:=List.length_map _
   have hW:th5 d ⟨k,r,L,x,y,hd,mo,ti,l,more,a⟩=(0,⟨k,r,L.map (ulf l (lkG d a l).2.2),x,y,hd,mo,ti,l,(lkG d a l).2.2,(lkG d a l).2.1⟩):=if_neg (by simp[t1])
   rw[hW,jaR rfl,jaS rfl]
   dsimp only
   rw[hlm]
   have hw:=t1
   repeat' first|exact hc|refine tU ?_|refine qab [0,1,2,3] [] rfl ?_|refine qaa ?_ ?_|(refine tI ?_;intro hyp)|intro hyp0|exact tZ|omega
  ·have hW:th5 d ⟨k,r,L,x,y,hd,mo,ti,l,more,a⟩=((lkG d a l).1,.bad):=if_pos t1
   rw[hW,jaf t1,jag t1]
   have hw:=eq_false t1
   repeat' first|exact hc|refine tU ?_|refine qac (qab [0,1,2] [] rfl ?_)|refine qaa ?_ ?_|(refine tI ?_;intro hyp)|intro hyp0|exact tZ|omega
 ·have hT:thG d 6 ⟨k,r,L,x,y,hd,mo,ti,l,more,a⟩=th6 d ⟨k,r,L,x,y,hd,mo,ti,l,more,a⟩:=rfl
  rw[hT]
  have hgr':=hgr (by decide)
  obtain⟨a1,b1⟩:∃a1,a+varU d a=a1:=⟨_,rfl⟩
  have v1:=jae h3 a
  by_cases t1:upE d a (2*r-2)=0
  case neg =>
   have hW:th6 d ⟨k,r,L,x,y,hd,mo,ti,l,more,a⟩=(upE d a (2*r-2),.bad):=by simp only[th6,b1,t1,ne_eq,not_true_eq_false,not_false_eq_true,if_true,if_false]
   rw[hW,jaf t1,jag t1]
   have hw:=eq_false t1
   repeat' first|exact hr1|refine tU ?_|refine qac (qab [0,1,2] [] rfl ?_)|refine qaa ?_ ?_|(refine tI ?_;intro hyp)|intro hyp0|exact tZ|omega
  have u1:=jaQ t1
  by_cases t2:varV d a=0
  ·have hW:th6 d ⟨k,r,L,x,y,hd,mo,ti,l,more,a⟩=(3,.bad):=by simp only[th6,t1,t2,ne_eq,not_true_eq_false,not_false_eq_true,if_true,if_false]
   rw[hW,jaf (by decide),jag (by decide)]
   have hw:=qaa t1 t2
   repeat' first|exact hr1|refine tU ?_|refine qac (qab [0,1,2] [] rfl ?_)|refine qaa ?_ ?_|(refine tI ?_;intro hyp)|intro hyp0|exact tZ|omega
  ·have hW:th6 d ⟨k,r,L,x,y,hd,mo,ti,l,more,a⟩=(0,⟨k,r,(jbi (jat L k.toNat r.toNat) (jki (varV d a))).flatten,x,y,hd,mo,ti,l,more,a1⟩):=by simp only[th6,t1,t2,b1,ne_eq,not_true_eq_false,not_false_eq_true,if_true,if_false]
   rw[hW,jaR rfl,jaS rfl]
   have hcw:CWs L:=fun c hc=>(hwf c hc).1
   by_cases hpar:varV d a % 2=0
   ·rw[jki,if_pos hpar]
    have hw:=qaa t1 (qaa (eq_false t2) (qaa b1 hpar))
    repeat' first|exact hr1|exact hgr'|exact hcw _ ‹_›|refine tU ?_|refine qab [0,1,2,3] [] rfl ?_|refine qaa ?_ ?_|(refine tI ?_;intro hyp)|intro hyp0|exact tZ|omega
   ·rw[jki,if_neg hpar]
    have hw:=qaa t1 (qaa (eq_false t2) (qaa b1 (eq_false hpar)))
    repeat' first|exact hr1|exact hgr'|exact hcw _ ‹_›|refine tU ?_|refine qab [0,1,2,3] [] rfl ?_|refine qaa ?_ ?_|(refine tI ?_;intro hyp)|intro hyp0|exact tZ|omega
 ·have hT:thG d 7 ⟨k,r,L,x,y,hd,mo,ti,l,more,a⟩=th7 d ⟨k,r,L,x,y,hd,mo,ti,l,more,a⟩:=rfl
  rw[hT]
  have hc:=qaa hr1 hz0
  by_cases t1:(cpsG d a k.toNat r.toNat L).1=0
  ·have hlm:=juW (d:=d) (a:=a) hz0 hr1.2.2 hr1.1 t1
   have hW:th7 d ⟨k,r,L,x,y,hd,mo,ti,l,more,a⟩=(0,⟨k,r,(cpsG d a k.toNat r.toNat L).2.2,x,y,hd,mo,ti,l,more,(cpsG d a k.toNat r.toNat L).2.1⟩):=if_neg (by simp[t1])
   rw[hW,jaR rfl,jaS rfl]
   dsimp only
   rw[hlm]
   have hw:=t1
   repeat' first|exact hc|refine tU ?_|refine qab [0,1,2,3] [] rfl ?_|refine qaa ?_ ?_|(refine tI ?_;intro hyp)|intro hyp0|exact tZ|omega
  ·have hW:th7 d ⟨k,r,L,x,y,hd,mo,ti,l,more,a⟩=((cpsG d a k.toNat r.toNat L).1,.bad):=if_pos t1
   rw[hW,jaf t1,jag t1]
   have hw:=eq_false t1
   repeat' first|exact hc|refine tU ?_|refine qac (qab [0,1,2] [] rfl ?_)|refine qaa ?_ ?_|(refine tI ?_;intro hyp)|intro hyp0|exact tZ|omega
 ·have hT:thG d 8 ⟨k,r,L,x,y,hd,mo,ti,l,more,a⟩=th8 d ⟨k,r,L,x,y,hd,mo,ti,l,more,a⟩:=rfl
  rw[hT]
  have hc:=qaa hr1 (qaa hz0 hl2)
  by_cases t1:(rnsG d a k.toNat more.length L).1=0
  ·have hlm:=juX (d:=d) (a:=a) (k:=k.toNat) (nl:=more.length) hr1.1 t1
   have hW:th8 d ⟨k,r,L,x,y,hd,mo,ti,l,more,a⟩=(0,⟨k,r,(rnsG d a k.toNat more.length L).2.2,x,y,hd,mo,ti,l,more,(rnsG d a k.toNat more.length L).2.1⟩):=if_neg (by simp[t1])
   rw[hW,jaR rfl,jaS rfl]
   dsimp only
   rw[hlm]
   have hw:=t1
   repeat' first|exact hc|refine tU ?_|refine qab [0,1,2,3] [] rfl ?_|refine qaa ?_ ?_|(refine tI ?_;intro hyp)|intro hyp0|exact tZ|omega
  ·have hW:th8 d ⟨k,r,L,x,y,hd,mo,ti,l,more,a⟩=((rnsG d a k.toNat more.length L).1,.bad):=if_pos t1
   rw[hW,jaf t1,jag t1]
   have hw:=eq_false t1
   repeat' first|exact hc|refine tU ?_|refine qac (qab [0,1,2] [] rfl ?_)|refine qaa ?_ ?_|(refine tI ?_;intro hyp)|intro hyp0|exact tZ|omega)
end
section
structure Kept (d:List Int) (last:Int) (s:RS):Prop where
 rd:RdOk d s.a
 sz:Szd s.k s.r s.L
 nl:s.l.length≤16
 nm:s.more.length≤16
 wf:∀c∈s.L,CWf c
 lk:last<5→∀c∈s.L,c.link≤s.l.length
 gr:last<6→jbo s.k s.r s.L=true
 sl:∀t∈s.more,SLen t
 st:SLen s.ti
 ls:∀t∈s.l,SLen t
theorem Kept.up {d:List Int}{last kd:Int}{s:RS}(h:Kept d last s) (hk:last≤kd):Kept d kd s :=
 ⟨h.rd,h.sz,h.nl,h.nm,h.wf,fun q=>h.lk (by omega),fun q=>h.gr (by omega),h.sl,h.st,h.ls⟩
theorem jeY {d:List Int}{a:Nat}(h:RdOk d a):RdOk d (a+varU d a):=⟨jaz h.1,h.2.1,h.2.2⟩
theorem jBH {d:List Int}{last:Int}{s:RS}(h:Kept d last s) (e:(th2 d s).1=0):Kept d last (th2 d s).2:=by
 unfold th2 at e ⊢
 split at e
 ·rename_i q
  exact absurd e q
 rename_i q1
 rw[if_neg q1]
 split at e
 ·rename_i q
  exact absurd e q
 rename_i q2
 rw[if_neg q2]
 split at e
 ·rename_i q
  exact absurd e q
 rename_i q3
 rw[if_neg q3]
 exact⟨jeY (jeY (jeY h.rd)),h.sz,h.nl,h.nm,h.wf,h.lk,h.gr,h.sl,h.st,h.ls⟩
theorem jBI {d:List Int}{last:Int}{s:RS}(h:Kept d last s) (e:(th3 d s).1=0):Kept d last (th3 d s).2:=by
 unfold th3 at e ⊢
 split at e
 ·rename_i q
  exact absurd e q
 rename_i q1
 rw[if_neg q1]
 refine⟨⟨jqM h.rd.1,h.rd.2.1,h.rd.2.2⟩,h.sz,h.nl,h.nm,h.wf,h.lk,h.gr,h.sl,?_,h.ls⟩
 have:=jkr d s.a 64
 have:=h.rd.2.1
 simp only[SLen,jbZ]
 omega
theorem jBJ {d:List Int}{last:Int}{s:RS}(h:Kept d last s) (e:(th4 d s).1=0):Kept d last (th4 d s).2:=by
 unfold th4 at e ⊢
 split at e
 ·rename_i q
  exact absurd e q
 rename_i q1
 rw[if_neg q1]
 exact⟨jeY h.rd,h.sz,h.nl,h.nm,h.wf,h.lk,h.gr,h.sl,h.st,h.ls⟩
theorem jBK {d:List Int}{last:Int}{s:RS}(h:Kept d last s) (e:(th1 d s).1=0):Kept d last (th1 d s).2:=by
 unfold th1 at e ⊢
 split at e
 ·rename_i q
  exact absurd e q
 rename_i q1
 rw[if_neg q1]
 split at e
 ·rename_i q
  exact absurd e q
 rename_i q2
 rw[if_neg q2]
 split at e
 ·cases e
 rename_i q3
 rw[if_neg q3]
 have v1:=jae h.rd.2.2 s.a
 have v2:=jae h.rd.2.2 (s.a+varU d s.a)
 have s1:=not_or.mp q3
 have s2:=not_or.mp s1.2
 have n1:varV d s.a≠0:=fun z=>s2.2 (by rw[z,Int.zero_mul])
 have n2:varV d (s.a+varU d s.a)≠0:=fun z=>s2.2 (by rw[z,Int.mul_zero])
 have hg:=jiA (k:=(varV d s.a).toNat) (r:=(varV d (s.a+varU d s.a)).toNat) (by omega) (by omega)
 rw[Int.toNat_of_nonneg v1.1,Int.toNat_of_nonneg v2.1]at hg
 refine⟨jeY (jeY h.rd),⟨by dsimp only;omega,by dsimp only;omega,List.length_replicate⟩,Nat.zero_le _,Nat.zero_le _,fun c hc=>?_,fun _ c hc=>?_,fun _=>hg,fun t ht=>(by cases ht),(show SLen (bs []) by decide),fun t ht=>(by cases ht)⟩
 ·rw[List.eq_of_mem_replicate hc]
  constructor<;>decide
 ·rw[List.eq_of_mem_replicate hc]
  show blank0.link≤((0:Nat):Int)
  decide
theorem jpx {c:CD}(h:CWf c){n:Int}(hn:0≤n∧n<65536):CWf (c.withLink n):=⟨h.rune,h.wide,h.fg,h.bg,h.attrs,hn⟩
theorem jAZ {c:CD}{l m:List ByteArray}(h:CWf c) (hm:m.length≤16):CWf (ulf l m c):=by
 unfold ulf
 split
 ·have:=jcF m (sAt l (c.link-1).toNat)
  exact jpx h (by omega)
 ·exact h
theorem juY {d:List Int}(h2:d.length≤1000000):∀(n a:Nat) (m:List ByteArray),(∀t∈m,SLen t)→∀t∈(lnkG d n a m).2.2,SLen t
 | 0,a,m,h=>h
 | n+1,a,m,h=>by
  simp only[lnkG]
  split
  ·intro t ht
   cases ht
  ·split
   ·intro t ht
    cases ht
   ·refine juY h2 n _ _ (fun t ht=>?_)
    rcases List.mem_append.1 ht with q|q
    ·exact h t q
    ·rw[List.mem_singleton.1 q]
     have:=jkr d a 64
     simp only[SLen,jbZ]
     omega
theorem juZ {d:List Int}{a:Nat}{l:List ByteArray}(h:RdOk d a) (hl:l.length≤16) (hs:∀t∈l,SLen t) (e:(lkG d a l).1=0):(lkG d a l).2.1≤d.length∧(lkG d a l).2.2.length≤16∧∀t∈(lkG d a l).2.2,SLen t:=by
 unfold lkG at e ⊢
 split at e
 ·rename_i q
  exact absurd e q
 rename_i q1
 rw[if_neg q1]
 split at e
 ·rename_i q
  exact absurd e q
 rename_i q2
 rw[if_neg q2]
 have u1:=jaQ (Classical.not_not.mp q1)
 have u2:=jaQ (Classical.not_not.mp q2)
 have v1:=jae h.2.2 a
 have v2:=jae h.2.2 (a+varU d a)
 have f:=juI (d:=d) (varV d (a+varU d a)).toNat (a+varU d a+varU d (a+varU d a)) (l.take (varV d a).toNat) (jeY (jeY h)).1 h.2.2
 refine⟨f.1,?_,juY h.2.1 _ _ _ (fun t ht=>hs t (List.mem_of_mem_take ht))⟩
 rw[f.2 e,List.length_take]
 omega
theorem jBL {d:List Int}{last:Int}{s:RS}(h:Kept d last s) (hl:last<5) (hs:∀t∈s.l,SLen t) (e:(th5 d s).1=0):Kept d 5 (th5 d s).2:=by
 unfold th5 at e ⊢
 split at e
 ·rename_i q
  exact absurd e q
 rename_i q1
 rw[if_neg q1]
 obtain⟨f1,f2,f3⟩:=juZ h.rd h.nl hs (Classical.not_not.mp q1)
 refine⟨⟨f1,h.rd.2⟩,⟨h.sz.1,h.sz.2.1,by rw[List.length_map];exact h.sz.2.2⟩,h.nl,f2,fun c hc=>?_,fun q=>absurd q (by decide),fun _=>jnK _ _ (h.gr (by omega)),f3,h.st,h.ls⟩
 obtain⟨c0,h0,rfl⟩:=List.mem_map.1 hc
 exact jAZ (h.wf c0 h0) f2
theorem ju0 {L R:List CD}{o:Nat}(hL:∀c∈L,CWf c) (hR:∀c∈R,CWf c):∀c∈jcg L o R,CWf c:=fun c hc=>by
 unfold jcg at hc
 rcases List.mem_append.1 hc with q|q
 ·rcases List.mem_append.1 q with q|q
  ·exact hL c (List.mem_of_mem_take q)
  ·exact hR c q
 ·exact hL c (List.mem_of_mem_drop q)
theorem jyc {d:List Int}{k r:Nat}{was:List CD}(hw:∀c∈was,CWf c):∀(n a pos:Nat) (L:List CD),(∀c∈L,CWf c)→∀c∈(cpG d k r was n a pos L).2.2,CWf c
 | 0,a,pos,L,h=>h
 | n+1,a,pos,L,h=>by
  simp only[cpG]
  split
  ·intro c hc
   cases hc
  ·split
   ·intro c hc
    cases hc
   ·exact jyc hw n _ _ _ (ju0 h (fun c hc=>hw c (jej hc)))
theorem jBM {d:List Int}{last:Int}{s:RS}(h:Kept d last s) (e:(th7 d s).1=0):Kept d 7 (th7 d s).2:=by
 unfold th7 at e ⊢
 split at e
 ·rename_i q
  exact absurd e q
 rename_i q1
 rw[if_neg q1]
 have e0:=Classical.not_not.mp q1
 have hl:=juW (d:=d) (a:=s.a) h.sz h.rd.2.2 h.rd.1 e0
 refine⟨⟨?_,h.rd.2⟩,⟨h.sz.1,h.sz.2.1,hl.trans h.sz.2.2⟩,h.nl,h.nm,?_,fun q=>absurd q (by decide),fun q=>absurd q (by decide),h.sl,h.st,h.ls⟩
 ·have hle:=h.rd.1
  revert e0
  unfold cpsG
  split
  ·exact fun e=>absurd e ‹_›
  ·exact fun _=>(jmN _ _ s.L h.sz.2.2 h.rd.2.2 _ _ _ _ (jaz hle) h.sz.2.2).1
 ·revert e0
  unfold cpsG
  split
  ·exact fun e=>absurd e ‹_›
  ·exact fun _=>jyc h.wf _ _ _ _ h.wf
def PWf (p:PD):Prop:=(0≤p.fg∧p.fg<4294967296)∧(0≤p.bg∧p.bg<4294967296)∧(0≤p.attrs∧p.attrs<256)∧(0≤p.link∧p.link<65536)
theorem jpy {L:List CD}{i:Nat}{a:CD}(hL:∀c∈L,CWf c) (ha:CWf a):∀c∈L.set i a,CWf c:=fun c hc=>by
 rcases List.mem_or_eq_of_mem_set hc with q|q
 ·exact hL c q
 ·rw[q]
  exact ha
theorem jzJ {L:List CD}{pos:Nat}{c w:Int}{p:PD}(hL:∀c∈L,CWf c) (hc:0≤c∧c≤1114111) (hp:PWf p):∀x∈putL L pos c w p,CWf x:=by
 obtain⟨p1,p2,p3,p4⟩:=hp
 unfold putL
 split
 ·exact jpy (jpy hL ⟨by dsimp only;omega,by dsimp only;omega,p1,p2,p3,p4⟩) ⟨by dsimp only;omega,by dsimp only;omega,p1,p2,p3,p4⟩
 ·exact jpy hL ⟨by dsimp only;omega,by dsimp only;omega,p1,p2,p3,p4⟩
theorem ju1 {d:List Int}{k:Nat}{p:PD}(hb:Bts d) (hp:PWf p):∀(n a pos:Nat) (L:List CD),(∀c∈L,CWf c)→∀c∈(letG d k p n a pos L).2.2.2,CWf c
 | 0,a,pos,L,h=>h
 | n+1,a,pos,L,h=>by
  simp only[letG]
  split
  ·intro c hc
   cases hc
  ·rename_i q
   split
   ·intro c hc
    cases hc
   ·have u:=jaQ (Classical.not_not.mp q)
    have v:=jae hb a
    exact ju1 hb hp n _ _ _ (jzJ h (by omega) hp)
theorem jzK {d:List Int}{a pos all nl:Nat}(hb:Bts d) (hn:nl≤16) (h:(hdG d a pos all nl).e=0):PWf (hdG d a pos all nl).p:=by
 obtain⟨a1,b1⟩:∃a1,a+varU d a=a1:=⟨_,rfl⟩
 obtain⟨a2,b2⟩:∃a2,a1+varU d a1=a2:=⟨_,rfl⟩
 obtain⟨a3,b3⟩:∃a3,a2+varU d a2=a3:=⟨_,rfl⟩
 obtain⟨a4,b4⟩:∃a4,a3+varU d a3=a4:=⟨_,rfl⟩
 obtain⟨a5,b5⟩:∃a5,a4+varU d a4=a5:=⟨_,rfl⟩
 by_cases t1:upE d a ((all:Int)-pos)=0
 case neg =>
  simp only[hdG,b1,b2,b3,b4,b5,t1,jbq,ne_eq,not_true_eq_false,not_false_eq_true,if_true,if_false]at h
 by_cases t2:upE d a1 ((all:Int)-((pos+(varV d a).toNat:Nat):Int))=0
 case neg =>
  simp only[hdG,b1,b2,b3,b4,b5,t1,t2,jbq,ne_eq,not_true_eq_false,not_false_eq_true,if_true,if_false]at h
 by_cases t3:varV d a1=0
 ·simp only[hdG,b1,b2,b3,b4,b5,t1,t2,t3,jbq,ne_eq,not_true_eq_false,not_false_eq_true,if_true,if_false]at h
  cases h
 by_cases t4:colE d a2=0
 case neg =>
  simp only[hdG,b1,b2,b3,b4,b5,t1,t2,t3,t4,jbq,ne_eq,not_true_eq_false,not_false_eq_true,if_true,if_false]at h
 by_cases t5:colE d a3=0
 case neg =>
  simp only[hdG,b1,b2,b3,b4,b5,t1,t2,t3,t4,t5,jbq,ne_eq,not_true_eq_false,not_false_eq_true,if_true,if_false]at h
 by_cases t6:upE d a4 255=0
 case neg =>
  simp only[hdG,b1,b2,b3,b4,b5,t1,t2,t3,t4,t5,t6,jbq,ne_eq,not_true_eq_false,not_false_eq_true,if_true,if_false]at h
 by_cases t7:upE d a5 nl=0
 case neg =>
  simp only[hdG,b1,b2,b3,b4,b5,t1,t2,t3,t4,t5,t6,t7,jbq,ne_eq,not_true_eq_false,not_false_eq_true,if_true,if_false]at h
 simp only[hdG,b1,b2,b3,b4,b5,t1,t2,t3,t4,t5,t6,t7,ne_eq,not_true_eq_false,not_false_eq_true,if_true,if_false]
 have u4:=jaQ (jlD t4)
 have u5:=jaQ (jlD t5)
 have u6:=jaQ t6
 have u7:=jaQ t7
 have v2:=jae hb a2
 have v3:=jae hb a3
 have v4:=jae hb a4
 have v5:=jae hb a5
 refine⟨⟨v2.1,?_⟩,⟨v3.1,?_⟩,⟨v4.1,?_⟩,⟨v5.1,?_⟩⟩<;>dsimp only<;>omega
theorem jyd {d:List Int}{k nl:Nat}(hb:Bts d) (hn:nl≤16):∀(n a pos:Nat) (L:List CD),(∀c∈L,CWf c)→∀c∈(rnG d k nl n a pos L).2.2,CWf c
 | 0,a,pos,L,h=>h
 | n+1,a,pos,L,h=>by
  simp only[rnG]
  split
  ·intro c hc
   cases hc
  ·rename_i q
   split
   ·intro c hc
    cases hc
   ·exact jyd hb hn n _ _ _ (ju1 hb (jzK hb hn (Classical.not_not.mp q)) _ _ _ _ h)
theorem jBN {d:List Int}{last:Int}{s:RS}(h:Kept d last s) (e:(th8 d s).1=0):Kept d 8 (th8 d s).2:=by
 unfold th8 at e ⊢
 split at e
 ·rename_i q
  exact absurd e q
 rename_i q1
 rw[if_neg q1]
 have e0:=Classical.not_not.mp q1
 have hl:=juX (d:=d) (a:=s.a) (k:=s.k.toNat) (nl:=s.more.length) h.rd.1 e0
 refine⟨⟨?_,h.rd.2⟩,⟨h.sz.1,h.sz.2.1,hl.trans h.sz.2.2⟩,h.nl,h.nm,?_,fun q=>absurd q (by decide),fun q=>absurd q (by decide),h.sl,h.st,h.ls⟩
 ·have hle:=h.rd.1
  revert e0
  unfold rnsG
  split
  ·exact fun e=>absurd e ‹_›
  ·exact fun _=>(jmM _ _ _ _ _ _ (jaz hle)).1
 ·revert e0
  unfold rnsG
  split
  ·exact fun e=>absurd e ‹_›
  ·exact fun _=>jyd h.rd.2.2 h.nm _ _ _ _ h.wf
theorem jlE {k:Nat}:∀{r:Nat}{M:List (List CD)},Rect M k r→M.flatten.length=k*r
 | r,[],h=>by
  have:=h.len
  simp only[List.length_nil]at this
  subst this
  rfl
 | r,l::M,h=>by
  have hl:=h.len
  simp only[List.length_cons]at hl
  subst hl
  have ih:=jlE (k:=k) (r:=M.length) (M:=M) ⟨rfl,fun x hx=>h.row x (List.mem_cons_of_mem _ hx)⟩
  rw[List.flatten_cons,List.length_append,ih,h.row l List.mem_cons_self,Nat.mul_add,Nat.mul_one,Nat.add_comm]
theorem jxq {L:List CD}(h:∀c∈L,CWf c) (j:Int):CWf (jfd L j):=by
 unfold jfd
 split
 ·rename_i q
  exact h _ (jbp (by omega))
 ·constructor<;>decide
theorem jBO {d:List Int}{last:Int}{s:RS}(h:Kept d last s) (e:(th6 d s).1=0):Kept d 6 (th6 d s).2:=by
 unfold th6 at e ⊢
 split at e
 ·rename_i q
  exact absurd e q
 rename_i q1
 rw[if_neg q1]
 split at e
 ·cases e
 rename_i q2
 rw[if_neg q2]
 have hf:=jlE (ji6 (ja1 h.sz.2.2) (jki (varV d s.a)))
 refine⟨jeY h.rd,⟨h.sz.1,h.sz.2.1,hf⟩,h.nl,h.nm,fun c hc=>?_,fun q=>absurd q (by decide),fun q=>absurd q (by decide),h.sl,h.st,h.ls⟩
 obtain⟨i,hi,rfl⟩:=List.mem_iff_getElem.1 hc
 have hi2:i<s.k.toNat*s.r.toNat:=by rw[←hf];exact hi
 have hk:=h.sz.1
 have:=jAT h.sz.2.2 (show 1≤s.k.toNat by omega) (jki (varV d s.a)) hi2
 have hx:cAt (jbi (jat s.L s.k.toNat s.r.toNat) (jki (varV d s.a))).flatten i=(jbi (jat s.L s.k.toNat s.r.toNat) (jki (varV d s.a))).flatten[i]:=by simp[cAt,List.getD_eq_getElem?_getD,List.getElem?_eq_getElem hi]
 show CWf ((jbi (jat s.L s.k.toNat s.r.toNat) (jki (varV d s.a))).flatten[i])
 rw[←hx,this]
 exact jxq h.wf _
theorem jA0 {d:List Int}{last kd:Int}{s:RS}(h:Kept d last s) (hl:last<kd) (hk:1≤kd∧kd≤8) (e:(thG d kd s).1=0):Kept d kd (thG d kd s).2:=by
 obtain rfl|rfl|rfl|rfl|rfl|rfl|rfl|rfl:kd=1∨kd=2∨kd=3∨kd=4∨kd=5∨kd=6∨kd=7∨kd=8:=by omega
 ·exact (jBK h e).up (by omega)
 ·exact (jBH h e).up (by omega)
 ·exact (jBI h e).up (by omega)
 ·exact (jBJ h e).up (by omega)
 ·exact jBL h (by omega) h.ls e
 ·exact jBO h e
 ·exact jBM h e
 ·exact jBN h e
def goG (d:List Int):Nat→Int→RS→Int×RS
 | 0,_,s=>(0,s)
 | f+1,last,s=>if d.length≤s.a then (0,s) else
  if d.getD s.a 0≤last∨8<d.getD s.a 0 then (3,.bad) else
  if (thG d (d.getD s.a 0) { s with a:=s.a+1 }).1≠0 then ((thG d (d.getD s.a 0) { s with a:=s.a+1 }).1,.bad) else
  goG d f (d.getD s.a 0) (thG d (d.getD s.a 0) { s with a:=s.a+1 }).2
theorem Kept.next {d:List Int}{last:Int}{s:RS}(h:Kept d last s) (ha:s.a<d.length):Kept d last { s with a:=s.a+1 }:=⟨⟨ha,h.rd.2⟩,h.sz,h.nl,h.nm,h.wf,h.lk,h.gr,h.sl,h.st,h.ls⟩
def jkV:RS:=⟨0,0,[],0,0,false,0,bs [],[],[],0⟩
def apG (d:List Int) (s:RS):Int×RS :=
 if jal s.k s.r s.L s.x s.y s.mo s.ti s.l=false then (1,jkV) else
 if (goG d 9 0 { s with more:=s.l,a:=0 }).1≠0 then ((goG d 9 0 { s with more:=s.l,a:=0 }).1,jkV) else
 if jal (goG d 9 0 { s with more:=s.l,a:=0 }).2.k (goG d 9 0 { s with more:=s.l,a:=0 }).2.r (goG d 9 0 { s with more:=s.l,a:=0 }).2.L (goG d 9 0 { s with more:=s.l,a:=0 }).2.x (goG d 9 0 { s with more:=s.l,a:=0 }).2.y (goG d 9 0 { s with more:=s.l,a:=0 }).2.mo (goG d 9 0 { s with more:=s.l,a:=0 }).2.ti (goG d 9 0 { s with more:=s.l,a:=0 }).2.more=false then (3,jkV) else
 (0,(goG d 9 0 { s with more:=s.l,a:=0 }).2)
end
end
end Go.Proofs.YtienkkicehmchaaGreatDoor
