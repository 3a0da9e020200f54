/- Texts of this claim, merged by a program of this claim: FRn2, FRn3. -/
import Derived.Test.YtienkkicehmchaaGreatDoorDo22
import Derived.Test.YtienkkicehmchaaGreatDoorDo23
import Derived.Test.YtienkkicehmchaaGreatDoorDo26
import Derived.Test.YtienkkicehmchaaGreatDoorDo32
import Derived.Test.YtienkkicehmchaaGreatDoorDo6
namespace Go.Proofs.YtienkkicehmchaaGreatDoor
open And renaming intro→qaa
open Cos renaming intro→qab,err→qac
noncomputable section
set_option linter.unusedVariables false
set_option linter.unusedSimpArgs false
section
open Go.RowKit
set_option maxRecDepth 100000
set_option maxHeartbeats 4000000
theorem jil {d:List Int}{n a pos:Nat}{L:List CD}{e:Int}(h:hd3G d a pos L.length=jbq e) (he:¬e=0):rn3G d (n+1) a pos L=(e,0,[]):=by
 simp only[rn3G,h,jbq,ne_eq,he,not_false_eq_true,if_true]
theorem jA9 {d:List Int}{n a pos a6 p1 N:Nat}{p:PD}{L:List CD}{U:Int×Nat×List CD}(h:hd3G d a pos L.length=⟨0,a6,p1,N,p⟩) (hU:le3G d p N a6 p1 L=U):rn3G d (n+1) a pos L=if U.1≠0 then (U.1,0,[]) else rn3G d n U.2.1 (p1+N) U.2.2:=by
 simp only[rn3G,h,hU,ne_eq,not_true_eq_false,if_false]
abbrev q_nrd (k r:Int) (L:List CD) (x y:Int) (hd:Bool) (mo:Int) (ti:ByteArray) (l:List ByteArray) (d:List Int) (a:Nat):QP:=(([.ptr 0 0 0],[RB2 2 k r L.length x y hd mo ti l,rdr d a 0,.seq .cell L]),(rs3G d a L).1,RdOk d a∧Szd k r L,.ret (.tup []),[RB2 3 k r L.length x y hd mo ti l,rdr d (rs3G d a L).2.1 0,.dead,.seq .cell (rs3G d a L).2.2])
def msp_nrd:=mspR (u11 q_nrd)
def esp_nrd:=espR (u11 q_nrd)
theorem jvu:InP (u11 q_nrd):=injM
theorem jst:W11 (hP msp_nrd esp_nrd) q_nrd:=w11 (aP rfl rfl jvu)
theorem jBa:Mp 173 msp_nrd esp_nrd:=ofP (u11 q_nrd) jvu fun⟨k,r,L,x,y,hd,mo,ti,l,d,a⟩ hG=>tfi (.m jaG jgP (.p jbj jm2 (.p jbk jm3 (.p jcS jvt (.f [.any] jfR jo1 .nil))))) 3 jdp (by
 dsimp only[u11,q_nrd]at hG ⊢
 have zc:=Hk.mk (qaa @jbV (qaa @jfI (qaa @jfJ (qaa @jm4 (qaa @jh1 (qaa @tq0 (qaa @tq1 @tq2)))))))
 obtain⟨hr0,hz⟩:=hG
 have hle:=hz.le
 obtain⟨hk,hr,hl⟩:=hz
 have hr1:=hr0
 obtain⟨h1,h2,h3⟩:=hr0
 obtain⟨k,rfl⟩:∃n:Nat,k=n:=⟨k.toNat,by omega⟩
 obtain⟨r,rfl⟩:∃n:Nat,r=n:=⟨r.toNat,by omega⟩
 simp only[Int.toNat_natCast]at hl ⊢
 have hv:=jae h3 a
 by_cases e1:jc2 d a=0
 ·have hW:rs3G d a L=rn3G d (varV d a).toNat (a+varU d a) 0 L:=by rw[rs3G,if_neg (by simp[e1])]
  rw[hW]
  generalize hWg:rn3G d (varV d a).toNat (a+varU d a) 0 L=W
  have hE:varE d a=0∧¬varV d a=0:=by
   unfold jc2 at e1
   split at e1
   ·rename_i q
    exact absurd e1 q
   ·rename_i q
    split at e1
    ·cases e1
    ·exact⟨by simpa using q,by assumption⟩
  have hw:=qaa hE.1 (eq_false hE.2)
  repeat' first|exact hr1|refine tU ?_|refine qaa ?_ ?_|(refine tI ?_;intro hyp)|intro hyp0|exact tZ|omega
  have hr2:RdOk d (a+varU d a):=⟨jaz h1,h2,h3⟩
  have hn0:((varV d a).toNat:Int)=varV d a:=by omega
  have hn1:((varV d a).toNat:Int)<18446744073709551616:=by omega
  refine T.loop (fun q:Nat×Nat×Nat×List CD=>⟨[(0,.ptr 0 0 0),(2,.int .u64 q.1),(3,.int .i64 q.2.2.1)],[RB2 2 k r q.2.2.2.length x y hd mo ti l,rdr d q.2.1 0,.seq .cell q.2.2.2]⟩) (fun q=>Few q.1∧RdOk d q.2.1∧q.2.2.1≤q.2.2.2.length∧q.2.2.2.length=L.length∧rn3G d q.1 q.2.1 q.2.2.1 q.2.2.2=W) (fun q=>q.1) ((varV d a).toNat,a+varU d a,0,L) ⟨hn1,hr2,Nat.zero_le _,rfl,hWg⟩ (qab [0,1,2] [] rfl (by simp only[hn0];exact tF)) (fun q hq=>?_)
  obtain⟨n,a0,pos,cur⟩:=q
  obtain⟨hn,hra,hp,hcl,hg⟩:=hq
  dsimp only at hn hra hp hcl hg
  have hn':(n:Int)<18446744073709551616:=hn
  cases n with
  | zero =>
   simp only[rn3G]at hg
   subst hg
   rw[jaR rfl,jaS rfl,←hcl]
   repeat' first|refine tU ?_|refine qab [0,1,2,2] [] rfl ?_|refine qaa ?_ ?_|(refine tI ?_;intro hyp)|intro hyp0|exact tZ|omega
  | succ n =>
   have g3:=hra.2.2
   obtain⟨a1,b1⟩:∃a1,a0+varU d a0=a1:=⟨_,rfl⟩
   obtain⟨a2,b2⟩:∃a2,a1+varU d a1=a2:=⟨_,rfl⟩
   obtain⟨a3,b3⟩:∃a3,a2+varU d a2=a3:=⟨_,rfl⟩
   obtain⟨a4,b4⟩:∃a4,a3+varU d a3=a4:=⟨_,rfl⟩
   obtain⟨a5,b5⟩:∃a5,a4+varU d a4=a5:=⟨_,rfl⟩
   have hr1:=jd3 hra b1
   have hr2:=jd3 hr1 b2
   have hr3:=jd3 hr2 b3
   have hr4:=jd3 hr3 b4
   have hr5:=jd3 hr4 b5
   have v0:=jae g3 a0
   have v1:=jae g3 a1
   have v2:=jae g3 a2
   have v3:=jae g3 a3
   have v4:=jae g3 a4
   have hp1:((pos+(varV d a0).toNat:Nat):Int)=pos+varV d a0:=by omega
   by_cases t1:upE d a0 ((cur.length:Int)-pos)=0
   case neg =>
    have hH:hd3G d a0 pos cur.length=jbq (upE d a0 ((cur.length:Int)-pos)):=by simp only[hd3G,t1,hp1,b1,b2,b3,b4,b5,ne_eq,not_true_eq_false,not_false_eq_true,if_true,if_false]
    rw[jil hH t1]at hg
    subst hg
    rw[jaf t1,jag t1]
    have hw2:=qaa (b1) (qaa (b2) (qaa (b3) (qaa (b4) (qaa (b5) ((eq_false t1))))))
    repeat' first|exact hra|refine tU ?_|refine qac (qab [0,1,2] [] rfl ?_)|refine qaa ?_ ?_|(refine tI ?_;intro hyp)|intro hyp0|exact tZ|omega
   have u1:=jaQ t1
   by_cases t2:upE d a1 ((cur.length:Int)-(pos+varV d a0))=0
   case neg =>
    have hH:hd3G d a0 pos cur.length=jbq (upE d a1 ((cur.length:Int)-(pos+varV d a0))):=by simp only[hd3G,t1,t2,hp1,b1,b2,b3,b4,b5,ne_eq,not_true_eq_false,not_false_eq_true,if_true,if_false]
    rw[jil hH t2]at hg
    subst hg
    rw[jaf t2,jag t2]
    have hw2:=qaa (b1) (qaa (b2) (qaa (b3) (qaa (b4) (qaa (b5) ((qaa (t1) (eq_false t2)))))))
    repeat' first|exact hra|exact hr1|refine tU ?_|refine qac (qab [0,1,2] [] rfl ?_)|refine qaa ?_ ?_|(refine tI ?_;intro hyp)|intro hyp0|exact tZ|omega
   have u2:=jaQ t2
   by_cases t3:varV d a1=0
   case pos =>
    have hH:hd3G d a0 pos cur.length=jbq (3):=by simp only[hd3G,t1,t2,t3,hp1,b1,b2,b3,b4,b5,ne_eq,not_true_eq_false,not_false_eq_true,if_true,if_false]
    rw[jil hH (by decide)]at hg
    subst hg
    rw[jaf (by decide),jag (by decide)]
    have hw2:=qaa (b1) (qaa (b2) (qaa (b3) (qaa (b4) (qaa (b5) ((qaa (t1) (qaa (t2) (t3))))))))
    repeat' first|exact hra|exact hr1|refine tU ?_|refine qac (qab [0,1,2] [] rfl ?_)|refine qaa ?_ ?_|(refine tI ?_;intro hyp)|intro hyp0|exact tZ|omega
   by_cases t4:colE d a2=0
   case neg =>
    have hH:hd3G d a0 pos cur.length=jbq (colE d a2):=by simp only[hd3G,t1,t2,t3,t4,hp1,b1,b2,b3,b4,b5,ne_eq,not_true_eq_false,not_false_eq_true,if_true,if_false]
    rw[jil hH t4]at hg
    subst hg
    rw[jaf t4,jag t4]
    have hw2:=qaa (b1) (qaa (b2) (qaa (b3) (qaa (b4) (qaa (b5) ((qaa (t1) (qaa (t2) (qaa (eq_false t3) (eq_false t4)))))))))
    repeat' first|exact hra|exact hr1|exact hr2|refine tU ?_|refine qac (qab [0,1,2] [] rfl ?_)|refine qaa ?_ ?_|(refine tI ?_;intro hyp)|intro hyp0|exact tZ|omega
   have u4:=jaQ (jlD t4)
   by_cases t5:colE d a3=0
   case neg =>
    have hH:hd3G d a0 pos cur.length=jbq (colE d a3):=by simp only[hd3G,t1,t2,t3,t4,t5,hp1,b1,b2,b3,b4,b5,ne_eq,not_true_eq_false,not_false_eq_true,if_true,if_false]
    rw[jil hH t5]at hg
    subst hg
    rw[jaf t5,jag t5]
    have hw2:=qaa (b1) (qaa (b2) (qaa (b3) (qaa (b4) (qaa (b5) ((qaa (t1) (qaa (t2) (qaa (eq_false t3) (qaa (t4) (eq_false t5))))))))))
    repeat' first|exact hra|exact hr1|exact hr2|exact hr3|refine tU ?_|refine qac (qab [0,1,2] [] rfl ?_)|refine qaa ?_ ?_|(refine tI ?_;intro hyp)|intro hyp0|exact tZ|omega
   have u5:=jaQ (jlD t5)
   by_cases t6:upE d a4 255=0
   case neg =>
    have hH:hd3G d a0 pos cur.length=jbq (upE d a4 255):=by simp only[hd3G,t1,t2,t3,t4,t5,t6,hp1,b1,b2,b3,b4,b5,ne_eq,not_true_eq_false,not_false_eq_true,if_true,if_false]
    rw[jil hH t6]at hg
    subst hg
    rw[jaf t6,jag t6]
    have hw2:=qaa (b1) (qaa (b2) (qaa (b3) (qaa (b4) (qaa (b5) ((qaa (t1) (qaa (t2) (qaa (eq_false t3) (qaa (t4) (qaa (t5) (eq_false t6)))))))))))
    repeat' first|exact hra|exact hr1|exact hr2|exact hr3|exact hr4|refine tU ?_|refine qac (qab [0,1,2] [] rfl ?_)|refine qaa ?_ ?_|(refine tI ?_;intro hyp)|intro hyp0|exact tZ|omega
   have u6:=jaQ t6
   have hH:hd3G d a0 pos cur.length=⟨0,a5,pos+(varV d a0).toNat,(varV d a1).toNat,⟨varV d a2,varV d a3,varV d a4,0⟩⟩:=by simp only[hd3G,t1,t2,t3,t4,t5,t6,hp1,b1,b2,b3,b4,b5,ne_eq,not_true_eq_false,not_false_eq_true,if_true,if_false]
   obtain⟨U,hU⟩:∃U,le3G d ⟨varV d a2,varV d a3,varV d a4,0⟩ (varV d a1).toNat a5 (pos+(varV d a0).toNat) cur=U:=⟨_,rfl⟩
   rw[jA9 hH hU]at hg
   have hw2:=qaa (b1) (qaa (b2) (qaa (b3) (qaa (b4) (qaa (b5) (qaa (t1) (qaa (t2) (qaa (eq_false t3) (qaa (t4) (qaa (t5) (t6))))))))))
   have hw3:=w_u8 (n:=varV d a4) (by omega)
   repeat' first|exact hra|exact hr1|exact hr2|exact hr3|exact hr4|exact hr5|refine tU ?_|refine qaa ?_ ?_|(refine tI ?_;intro hyp)|intro hyp0|exact tZ|omega
   have hN:((varV d a1).toNat:Int)=varV d a1:=by omega
   have hp0:pos+(varV d a0).toNat+(varV d a1).toNat≤cur.length:=by omega
   have hp2:((pos+(varV d a0).toNat:Nat):Int)=pos+varV d a0:=hp1
   obtain⟨p1,hp3⟩:∃p1,pos+(varV d a0).toNat=p1:=⟨_,rfl⟩
   rw[hp3]at hU hp0 hg hp2
   refine T.loop (fun q:Nat×Nat×List CD=>⟨[(0,.ptr 0 0 0),(2,.int .u64 ((n+1:Nat):Int)),(3,.int .i64 ((p1+q.1:Nat):Int)),(5,.ptr 3 0 0),(54,.int .i64 (varV d a1)),(55,.int .i64 q.1)],[RB2 2 k r q.2.2.length x y hd mo ti l,rdr d q.2.1 0,.seq .cell q.2.2,.box [.int .u32 (varV d a2),.int .u32 (varV d a3),.int .u8 (varV d a4),.int .u16 0]]⟩) (fun q=>q.1≤(varV d a1).toNat∧RdOk d q.2.1∧q.2.2.length=L.length∧le3G d ⟨varV d a2,varV d a3,varV d a4,0⟩ ((varV d a1).toNat-q.1) q.2.1 (p1+q.1) q.2.2=U) (fun q=>(varV d a1).toNat-q.1) (0,a5,cur) ⟨Nat.zero_le _,hr5,hcl,hU⟩ (qab [0,1,2,3] [] rfl (by simp only[hp2,Nat.add_zero];exact tF)) (fun q hq=>?_)
   clear hw2 hw3
   obtain⟨i,c0,crr⟩:=q
   obtain⟨hi,hra',hcl',hU'⟩:=hq
   dsimp only at hi hra' hcl' hU'
   have g4:=jae g3 c0
   by_cases hiN:i<(varV d a1).toNat
   ·obtain⟨m,hm⟩:∃m,(varV d a1).toNat-i=m+1:=⟨(varV d a1).toNat-i-1,by omega⟩
    rw[hm]at hU'
    simp only[le3G]at hU'
    by_cases s1:upE d c0 1114111=0
    case neg =>
     rw[if_pos s1]at hU'
     subst hU'
     rw[if_pos s1]at hg
     subst hg
     rw[jaf s1,jag s1]
     have hw2:=eq_false s1
     repeat' first|exact hra'|refine tU ?_|refine qac (qab [0,1,2] [] rfl ?_)|refine qaa ?_ ?_|(refine tI ?_;intro hyp)|intro hyp0|exact tZ|omega
    have w1:=jaQ s1
    rw[if_neg (by simp[s1])]at hU'
    obtain⟨c1,b7⟩:∃c1,c0+varU d c0=c1:=⟨_,rfl⟩
    have hrc:=jd3 hra' b7
    rw[b7]at hU'
    have hI:I32 (varV d c0):=by
     unfold I32
     omega
    have hw3:=qaa (jnt (n:=varV d c0) (by omega)) (qaa b7 s1)
    have hw5:IntKind.i32.wrap (varV d c0)=varV d c0:=jnt (n:=varV d c0) (by omega)
    by_cases s2:mayB ⟨varV d c0,0,varV d a2,varV d a3,varV d a4,0⟩=false
    ·rw[if_pos s2]at hU'
     subst hU'
     rw[if_pos (by decide)]at hg
     subst hg
     rw[jaf (by decide),jag (by decide)]
     have hw2:=s2
     repeat' first|exact hra'|exact hI|refine tU ?_|refine qac (qab [0,1,2] [] rfl ?_)|refine qaa ?_ ?_|(refine tI ?_;intro hyp)|intro hyp0|exact tZ|omega
    ·rw[if_neg s2]at hU'
     have hw2:=Bool.of_not_eq_false s2
     have hset:(crr.set (p1+i) ⟨varV d c0,0,varV d a2,varV d a3,varV d a4,0⟩).length=crr.length:=List.length_set ..
     have hin:p1+i<crr.length:=by omega
     repeat' first|exact hra'|exact hI|exact hin|refine tU ?_|refine qaa ?_ ?_|(refine tI ?_;intro hyp)|intro hyp0|exact tZ|omega
     refine⟨(i+1,c1,crr.set (p1+i) ⟨varV d c0,0,varV d a2,varV d a3,varV d a4,0⟩),⟨?_,hrc,hset.trans hcl',?_⟩,?_,qab [0,1,2,3] [] rfl ?_⟩
     ·dsimp only
      omega
     ·dsimp only
      rw[show (varV d a1).toNat-(i+1)=m by omega]
      exact hU'
     ·dsimp only
      omega
     ·dsimp only
      rw[hset]
      exact tF
   ·have hiq:i=(varV d a1).toNat:=by omega
    rw[show (varV d a1).toNat-i=0 by omega]at hU'
    simp only[le3G]at hU'
    subst hU'
    rw[if_neg (by simp)]at hg
    have hwr:IntKind.u64.wrap (((n+1:Nat):Int)-1)=n:=by
     rw[show ((n+1:Nat):Int)-1=n by omega]
     exact jhd (by omega)
    have hw2:=hwr
    repeat' first|refine tU ?_|refine qaa ?_ ?_|(refine tI ?_;intro hyp)|intro hyp0|exact tZ|omega
    exact⟨(n,c0,p1+i,crr),⟨by unfold Few;omega,hra',by dsimp only;omega,hcl',by rw[hiq];exact hg⟩,Nat.lt_succ_self _,qab [0,1,2] [] rfl (by exact tF)⟩
 ·have hW:rs3G d a L=(jc2 d a,0,[]):=by rw[rs3G,if_pos e1]
  rw[hW,jaf e1,jag e1]
  rcases jko d a with⟨hE,hq,he⟩|⟨hE,hq,he⟩|⟨hE,he⟩
  ·exact absurd he e1
  ·rw[he]
   have hw:=qaa hE hq
   repeat' first|exact hr1|refine tU ?_|refine qac (qab [0,1,2] [] rfl ?_)|refine qaa ?_ ?_|(refine tI ?_;intro hyp)|intro hyp0|exact tZ|omega
  ·rw[he]
   have hw:=eq_false hE
   repeat' first|exact hr1|refine tU ?_|refine qac (qab [0,1,2] [] rfl ?_)|refine qaa ?_ ?_|(refine tI ?_;intro hyp)|intro hyp0|exact tZ|omega)
end
section
open Go.RowKit
set_option maxRecDepth 100000
set_option maxHeartbeats 4000000
abbrev q_nthing (k r:Int) (L:List CD) (x y:Int) (hd:Bool) (mo:Int) (ti:ByteArray) (l:List ByteArray) (d:List Int) (a:Nat) (kd:Int):QP:=(([.ptr 0 0 0,.int .i64 kd],[RB2 2 k r L.length x y hd mo ti l,rdr d a 0,.seq .cell L]),(thR d kd ⟨k,r,L,x,y,hd,mo,ti,l,[],a⟩).1,RdOk d a∧Szd k r L∧(1≤kd∧kd≤5),.ret (.tup []),[RB2 3 (thR d kd ⟨k,r,L,x,y,hd,mo,ti,l,[],a⟩).2.k (thR d kd ⟨k,r,L,x,y,hd,mo,ti,l,[],a⟩).2.r (thR d kd ⟨k,r,L,x,y,hd,mo,ti,l,[],a⟩).2.L.length (thR d kd ⟨k,r,L,x,y,hd,mo,ti,l,[],a⟩).2.x (thR d kd ⟨k,r,L,x,y,hd,mo,ti,l,[],a⟩).2.y (thR d kd ⟨k,r,L,x,y,hd,mo,ti,l,[],a⟩).2.hd (thR d kd ⟨k,r,L,x,y,hd,mo,ti,l,[],a⟩).2.mo (thR d kd ⟨k,r,L,x,y,hd,mo,ti,l,[],a⟩).2.ti (thR d kd ⟨k,r,L,x,y,hd,mo,ti,l,[],a⟩).2.l,rdr d (thR d kd ⟨k,r,L,x,y,hd,mo,ti,l,[],a⟩).2.a 0,.dead,.seq .cell (thR d kd ⟨k,r,L,x,y,hd,mo,ti,l,[],a⟩).2.L])
def msp_nthing:=mspR (u12 q_nthing)
def esp_nthing:=espR (u12 q_nthing)
theorem jlS:InP (u12 q_nthing):=injM
theorem jm5:W12 (hP msp_nthing esp_nthing) q_nthing:=w12 (aP rfl rfl jlS)
theorem jvv:Mp 148 msp_nthing esp_nthing:=ofP (u12 q_nthing) jlS fun⟨k,r,L,x,y,hd,mo,ti,l,d,a,kd⟩ hG=>tfi (.p jbk jm3 (.m jaG jgP (.p jbj jm2 (.m jbx jmU (.p jdp jBa (.t [.any,.any] jaT jez .nil)))))) 3 jcT (by
 dsimp only[u12,q_nthing]at hG ⊢
 have zc:=Hk.mk (qaa @jfJ (qaa @jbV (qaa @jfI (qaa @jfE (qaa @jst (qaa @jb3 (qaa @tq0 (qaa @tq1 @tq2))))))))
 obtain⟨hr1,hz,hkd⟩:=hG
 have hle:=hz.le
 have hz0:=hz
 obtain⟨hk,hr,hl⟩:=hz
 have h3:=hr1.2.2
 obtain⟨s,hs⟩:∃s:RS,s=⟨k,r,L,x,y,hd,mo,ti,l,[],a⟩:=⟨_,rfl⟩
 obtain rfl|rfl|rfl|rfl|rfl:kd=1∨kd=2∨kd=3∨kd=4∨kd=5:=by omega
 ·have hT:thR d 1 ⟨k,r,L,x,y,hd,mo,ti,l,[],a⟩=th1 d ⟨k,r,L,x,y,hd,mo,ti,l,[],a⟩:=rfl
  rw[hT]
  obtain⟨a1,b1⟩:∃a1,a+varU d a=a1:=⟨_,rfl⟩
  obtain⟨a2,b2⟩:∃a2,a1+varU d a1=a2:=⟨_,rfl⟩
  have hr2:=jd3 hr1 b1
  have v1:=jae h3 a
  have v2:=jae h3 a1
  by_cases t1:varE d a=0
  case neg =>
   have hW:th1 d ⟨k,r,L,x,y,hd,mo,ti,l,[],a⟩=(varE d a,.bad):=by simp only[th1,t1,ne_eq,not_true_eq_false,not_false_eq_true,if_true,if_false]
   rw[hW,jaf t1,jag t1]
   have hw:=qaa b1 (eq_false t1)
   repeat' first|exact h3 _ ‹_›|exact hr1.1|exact hr1.2.1|refine tU ?_|refine qac (qab [0,1,2] [] rfl ?_)|refine qaa ?_ ?_|(refine tI ?_;intro hyp)|intro hyp0|exact tZ|omega
  by_cases t2:varE d a1=0
  case neg =>
   have hW:th1 d ⟨k,r,L,x,y,hd,mo,ti,l,[],a⟩=(varE d a1,.bad):=by simp only[th1,b1,t1,t2,ne_eq,not_true_eq_false,not_false_eq_true,if_true,if_false]
   rw[hW,jaf t2,jag t2]
   have hw:=qaa b1 (qaa t1 (eq_false t2))
   repeat' first|exact h3 _ ‹_›|exact hr1.1|exact hr1.2.1|exact hr2.1|refine tU ?_|refine qac (qab [0,1,2] [] rfl ?_)|refine qaa ?_ ?_|(refine tI ?_;intro hyp)|intro hyp0|exact tZ|omega
  by_cases t3:80<varV d a∨24<varV d a1
  ·have hW:th1 d ⟨k,r,L,x,y,hd,mo,ti,l,[],a⟩=(3,.bad):=by
    have t5:80<varV d a∨24<varV d a1∨varV d a*varV d a1=0:=by omega
    simp only[th1,b1,t1,t2,ne_eq,not_true_eq_false,not_false_eq_true,if_true,if_false,if_pos t5]
   rw[hW,jaf (by decide),jag (by decide)]
   have hw:=qaa b1 (qaa b2 (qaa t1 t2))
   repeat' first|exact h3 _ ‹_›|exact hr1.1|exact hr1.2.1|exact hr2.1|refine tU ?_|refine qac (qab [0,1,2] [] rfl ?_)|refine qaa ?_ ?_|(refine tI ?_;intro hyp)|intro hyp0|exact tZ|omega
   all_goals (exfalso;omega)
  have s1:=not_or.mp t3
  have hm:=jyb (x:=varV d a) (y:=varV d a1) (by omega) (by omega)
  have hww:=qaa (jf7 (n:=varV d a) (by omega)) (qaa (jf7 (n:=varV d a1) (by omega)) (jhd (n:=varV d a*varV d a1) (by omega)))
  have hw:=qaa b1 (qaa b2 (qaa t1 (qaa t2 hww)))
  by_cases t4:varV d a*varV d a1=0
  ·have hW:th1 d ⟨k,r,L,x,y,hd,mo,ti,l,[],a⟩=(3,.bad):=by
    have t5:80<varV d a∨24<varV d a1∨varV d a*varV d a1=0:=by omega
    simp only[th1,b1,t1,t2,ne_eq,not_true_eq_false,not_false_eq_true,if_true,if_false,if_pos t5]
   rw[hW,jaf (by decide),jag (by decide)]
   repeat' first|exact h3 _ ‹_›|exact hr1.1|exact hr1.2.1|exact hr2.1|refine tU ?_|refine qac (qab [0,1,2] [] rfl ?_)|refine qaa ?_ ?_|(refine tI ?_;intro hyp)|intro hyp0|exact tZ|omega
   all_goals (exfalso;omega)
  ·have hW:th1 d ⟨k,r,L,x,y,hd,mo,ti,l,[],a⟩=(0,⟨varV d a,varV d a1,List.replicate ((varV d a).toNat*(varV d a1).toNat) blank0,0,0,false,0,bs [],[],[],a2⟩):=by
    have t5:¬(80<varV d a∨24<varV d a1∨varV d a*varV d a1=0):=by omega
    simp only[th1,b1,b2,t1,t2,ne_eq,not_true_eq_false,not_false_eq_true,if_true,if_false,if_neg t5]
   rw[hW,jaR rfl,jaS rfl]
   have hfit:=jqN (x:=varV d a) (y:=varV d a1) (by omega) (by omega) t4
   repeat' first|exact h3 _ ‹_›|exact hr1.1|exact hr1.2.1|exact hr2.1|exact hfit|refine tU ?_|refine qab [0,1,2,3] [4] rfl ?_|refine qaa ?_ ?_|(refine tI ?_;intro hyp)|intro hyp0|exact tZ|omega
 ·have hT:thR d 2 ⟨k,r,L,x,y,hd,mo,ti,l,[],a⟩=th2 d ⟨k,r,L,x,y,hd,mo,ti,l,[],a⟩:=rfl
  rw[hT]
  obtain⟨a1,b1⟩:∃a1,a+varU d a=a1:=⟨_,rfl⟩
  obtain⟨a2,b2⟩:∃a2,a1+varU d a1=a2:=⟨_,rfl⟩
  obtain⟨a3,b3⟩:∃a3,a2+varU d a2=a3:=⟨_,rfl⟩
  have hr2:=jd3 hr1 b1
  have hr3:=jd3 hr2 b2
  have hr4:=jd3 hr3 b3
  by_cases t1:upE d a (k-1)=0
  case neg =>
   have hW:th2 d ⟨k,r,L,x,y,hd,mo,ti,l,[],a⟩=(upE d a (k-1),.bad):=by simp only[th2,b1,t1,ne_eq,not_true_eq_false,not_false_eq_true,if_true,if_false]
   rw[hW,jaf t1,jag t1]
   have hw:=eq_false t1
   repeat' first|exact hr1|refine tU ?_|refine qac (qab [0,1,2] [] rfl ?_)|refine qaa ?_ ?_|(refine tI ?_;intro hyp)|intro hyp0|exact tZ|omega
  by_cases t2:upE d a1 (r-1)=0
  case neg =>
   have hW:th2 d ⟨k,r,L,x,y,hd,mo,ti,l,[],a⟩=(upE d a1 (r-1),.bad):=by simp only[th2,b1,t1,t2,ne_eq,not_true_eq_false,not_false_eq_true,if_true,if_false]
   rw[hW,jaf t2,jag t2]
   have hw:=qaa (b1) (qaa (t1) (eq_false t2))
   repeat' first|exact hr1|exact hr2|refine tU ?_|refine qac (qab [0,1,2] [] rfl ?_)|refine qaa ?_ ?_|(refine tI ?_;intro hyp)|intro hyp0|exact tZ|omega
  by_cases t3:upE d a2 1=0
  case neg =>
   have hW:th2 d ⟨k,r,L,x,y,hd,mo,ti,l,[],a⟩=(upE d a2 1,.bad):=by simp only[th2,b1,b2,t1,t2,t3,ne_eq,not_true_eq_false,not_false_eq_true,if_true,if_false]
   rw[hW,jaf t3,jag t3]
   have hw:=qaa (b1) (qaa (b2) (qaa (t1) (qaa (t2) (eq_false t3))))
   repeat' first|exact hr1|exact hr2|exact hr3|refine tU ?_|refine qac (qab [0,1,2] [] rfl ?_)|refine qaa ?_ ?_|(refine tI ?_;intro hyp)|intro hyp0|exact tZ|omega
  have hW:th2 d ⟨k,r,L,x,y,hd,mo,ti,l,[],a⟩=(0,⟨k,r,L,varV d a,varV d a1,decide (varV d a2=1),mo,ti,l,[],a3⟩):=by simp only[th2,b1,b2,b3,t1,t2,t3,ne_eq,not_true_eq_false,not_false_eq_true,if_true,if_false]
  rw[hW,jaR rfl,jaS rfl]
  have hw:=qaa b1 (qaa b2 (qaa b3 (qaa t1 (qaa t2 t3))))
  repeat' first|exact hr1|exact hr2|exact hr3|refine tU ?_|refine qab [0,1,2,2] [] rfl ?_|refine qaa ?_ ?_|(refine tI ?_;intro hyp)|intro hyp0|exact tZ|omega
 ·have hT:thR d 3 ⟨k,r,L,x,y,hd,mo,ti,l,[],a⟩=th3 d ⟨k,r,L,x,y,hd,mo,ti,l,[],a⟩:=rfl
  rw[hT]
  by_cases t1:jcv d a 64=0
  ·have hW:th3 d ⟨k,r,L,x,y,hd,mo,ti,l,[],a⟩=(0,⟨k,r,L,x,y,hd,mo,jas (jdz d a 64),l,[],a+jdA d a 64⟩):=if_neg (by simp[t1])
   rw[hW,jaR rfl,jaS rfl]
   have hw:=t1
   repeat' first|exact h3 _ ‹_›|exact hr1.1|exact hr1.2.1|refine tU ?_|refine qab [0,1,2,2] [] rfl ?_|refine qaa ?_ ?_|(refine tI ?_;intro hyp)|intro hyp0|exact tZ|omega
  ·have hW:th3 d ⟨k,r,L,x,y,hd,mo,ti,l,[],a⟩=(jcv d a 64,.bad):=if_pos t1
   rw[hW,jaf t1,jag t1]
   have hw:=eq_false t1
   repeat' first|exact h3 _ ‹_›|exact hr1.1|exact hr1.2.1|refine tU ?_|refine qac (qab [0,1,2] [] rfl ?_)|refine qaa ?_ ?_|(refine tI ?_;intro hyp)|intro hyp0|exact tZ|omega
 ·have hT:thR d 4 ⟨k,r,L,x,y,hd,mo,ti,l,[],a⟩=th4 d ⟨k,r,L,x,y,hd,mo,ti,l,[],a⟩:=rfl
  rw[hT]
  by_cases t1:upE d a 2=0
  ·have u1:=jaQ t1
   have v1:=jae h3 a
   have hW:th4 d ⟨k,r,L,x,y,hd,mo,ti,l,[],a⟩=(0,⟨k,r,L,x,y,hd,varV d a,ti,l,[],a+varU d a⟩):=if_neg (by simp[t1])
   rw[hW,jaR rfl,jaS rfl]
   have hw:=qaa t1 (w_u8 (n:=varV d a) (by omega))
   repeat' first|exact hr1|refine tU ?_|refine qab [0,1,2,2] [] rfl ?_|refine qaa ?_ ?_|(refine tI ?_;intro hyp)|intro hyp0|exact tZ|omega
  ·have hW:th4 d ⟨k,r,L,x,y,hd,mo,ti,l,[],a⟩=(upE d a 2,.bad):=if_pos t1
   rw[hW,jaf t1,jag t1]
   have hw:=eq_false t1
   repeat' first|exact hr1|refine tU ?_|refine qac (qab [0,1,2] [] rfl ?_)|refine qaa ?_ ?_|(refine tI ?_;intro hyp)|intro hyp0|exact tZ|omega
 ·have hT:thR d 5 ⟨k,r,L,x,y,hd,mo,ti,l,[],a⟩=th5R d ⟨k,r,L,x,y,hd,mo,ti,l,[],a⟩:=rfl
  rw[hT]
  have hc:=qaa hr1 hz0
  by_cases t1:(rs3G d a L).1=0
  ·have hlm:=(jvp (d:=d) (a:=a) (L:=L) hr1.1).2 t1
   have hW:th5R d ⟨k,r,L,x,y,hd,mo,ti,l,[],a⟩=(0,⟨k,r,(rs3G d a L).2.2,x,y,hd,mo,ti,l,[],(rs3G d a L).2.1⟩):=if_neg (by simp[t1])
   rw[hW,jaR rfl,jaS rfl]
   dsimp only
   rw[hlm]
   have hw:=t1
   repeat' first|exact hc|refine tU ?_|refine qab [0,1,2,3] [] rfl ?_|refine qaa ?_ ?_|(refine tI ?_;intro hyp)|intro hyp0|exact tZ|omega
  ·have hW:th5R d ⟨k,r,L,x,y,hd,mo,ti,l,[],a⟩=((rs3G d a L).1,.bad):=if_pos t1
   rw[hW,jaf t1,jag t1]
   have hw:=eq_false t1
   repeat' first|exact hc|refine tU ?_|refine qac (qab [0,1,2] [] rfl ?_)|refine qaa ?_ ?_|(refine tI ?_;intro hyp)|intro hyp0|exact tZ|omega)
end
end
end Go.Proofs.YtienkkicehmchaaGreatDoor
