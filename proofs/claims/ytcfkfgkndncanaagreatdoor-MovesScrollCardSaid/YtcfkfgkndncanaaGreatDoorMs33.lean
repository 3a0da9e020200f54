/- Texts of this claim, merged by a program of this claim: FApply4. -/
import Derived.Test.YtcfkfgkndncanaaGreatDoorMs16
import Derived.Test.YtcfkfgkndncanaaGreatDoorMs32
namespace Go.Proofs.YtcfkfgkndncanaaGreatDoor
set_option linter.unusedVariables false
set_option linter.unusedSimpArgs false
section
open Go.RowKit
set_option maxRecDepth 100000
set_option maxHeartbeats 4000000
theorem jsu {d:List Int}{a:Nat}(h:colE d a=0):upE d a 4294967295=0:=by
 rcases jmf d a with q|q|q
 ·exact q.1
 ·rw[q.2.2]at h
  cases h
 ·exact absurd (q.2.symm.trans h) q.1
theorem jlg {d:List Int}{a b:Nat}(h:RdOk d a) (e:a+varU d a=b):RdOk d b:=e▸⟨jbz h.1,h.2.1,h.2.2⟩
theorem jlh {d:List Int}{k nl n a pos:Nat}{L:List CD}{e:Int}(h:hdG d a pos L.length nl=jez e) (he:¬e=0):rnG d k nl (n+1) a pos L=(e,0,[]):=by
 simp only[rnG,h,jez,ne_eq,he,not_false_eq_true,if_true]
theorem jCC {d:List Int}{k nl n a pos a6 p1 N:Nat}{p:PD}{L:List CD}{U:Int×Nat×Nat×List CD}(h:hdG d a pos L.length nl=⟨0,a6,p1,N,p⟩) (hU:letG d k p N a6 p1 L=U):rnG d k nl (n+1) a pos L=if U.1≠0 then (U.1,0,[]) else rnG d k nl n U.2.1 U.2.2.1 U.2.2.2:=by
 simp only[rnG,h,hU,ne_eq,not_true_eq_false,if_false]
theorem jyW (r:Int):0≤Utf.width r∧Utf.width r≤2:=by
 unfold Utf.width
 repeat' split
 all_goals omega
theorem jBc {k r pos:Nat}(h:pos<k*r) (hm:pos % k+2≤k):pos+1<k*r:=by
 have e:=Nat.div_add_mod pos k
 have hq:pos / k<r:=Nat.div_lt_of_lt_mul h
 have:k*(pos / k+1)≤k*r:=Nat.mul_le_mul_left k hq
 rw[Nat.mul_add,Nat.mul_one]at this
 omega
abbrev jiP (k:Int) (r:Int) (L:List CD) (x:Int) (y:Int) (hd:Bool) (mo:Int) (ti:ByteArray) (l:List ByteArray) (more:List ByteArray) (d:List Int) (a:Nat):List CV:=[.ptr 0 0 0]
abbrev jiQ (k:Int) (r:Int) (L:List CD) (x:Int) (y:Int) (hd:Bool) (mo:Int) (ti:ByteArray) (l:List ByteArray) (more:List ByteArray) (d:List Int) (a:Nat):KH:=[RB 2 k r L.length x y hd mo ti l more,rdr d a 0,.seq .cell L]
abbrev jq0 (k:Int) (r:Int) (L:List CD) (x:Int) (y:Int) (hd:Bool) (mo:Int) (ti:ByteArray) (l:List ByteArray) (more:List ByteArray) (d:List Int) (a:Nat):Prop×Res×KH:=(RdOk d a∧Szd k r L∧more.length≤16,.ret (.tup []),[RB 3 k r L.length x y hd mo ti l more,rdr d (rnsG d a k.toNat more.length L).2.1 0,.dead,.seq .cell (rnsG d a k.toNat more.length L).2.2])
noncomputable def jli:MSpec:=jcS (α:=Int×Int×(List CD)×Int×Int×Bool×Int×ByteArray×(List ByteArray)×(List ByteArray)×(List Int)×Nat) (fun⟨k,r,L,x,y,hd,mo,ti,l,more,d,a⟩=>(jiP k r L x y hd mo ti l more d a,jiQ k r L x y hd mo ti l more d a)) fun⟨k,r,L,x,y,hd,mo,ti,l,more,d,a⟩=>jq0 k r L x y hd mo ti l more d a
noncomputable def esp_rruns:ESpec:=jjo (α:=Int×Int×(List CD)×Int×Int×Bool×Int×ByteArray×(List ByteArray)×(List ByteArray)×(List Int)×Nat) (fun⟨k,r,L,x,y,hd,mo,ti,l,more,d,a⟩=>(jiP k r L x y hd mo ti l more d a,jiQ k r L x y hd mo ti l more d a)) fun⟨k,r,L,x,y,hd,mo,ti,l,more,d,a⟩=>(rnsG d a k.toNat more.length L).1
theorem jlj:InjM (α:=Int×Int×(List CD)×Int×Int×Bool×Int×ByteArray×(List ByteArray)×(List ByteArray)×(List Int)×Nat) (fun⟨k,r,L,x,y,hd,mo,ti,l,more,d,a⟩=>(jiP k r L x y hd mo ti l more d a,jiQ k r L x y hd mo ti l more d a)):=injM
theorem jaL (k:Int) (r:Int) (L:List CD) (x:Int) (y:Int) (hd:Bool) (mo:Int) (ti:ByteArray) (l:List ByteArray) (more:List ByteArray) (d:List Int) (a:Nat):jli (jiP k r L x y hd mo ti l more d a) (jiQ k r L x y hd mo ti l more d a)=some (jq0 k r L x y hd mo ti l more d a):=jbd _ jlj (k,r,L,x,y,hd,mo,ti,l,more,d,a)
theorem jaM (k:Int) (r:Int) (L:List CD) (x:Int) (y:Int) (hd:Bool) (mo:Int) (ti:ByteArray) (l:List ByteArray) (more:List ByteArray) (d:List Int) (a:Nat):esp_rruns (jiP k r L x y hd mo ti l more d a) (jiQ k r L x y hd mo ti l more d a)=(rnsG d a k.toNat more.length L).1:=jdC _ jlj (k,r,L,x,y,hd,mo,ti,l,more,d,a)
theorem jyX:MutP Tryz.prog E0 67 jli esp_rruns:=MutP.of jlj fun⟨k,r,L,x,y,hd,mo,ti,l,more,d,a⟩ hG=>TF.intro (V:=(VV [(104,conP jjF esp_some),(62,conP jfR esp_upto),(106,conP jkJ esp_rdcol),(59,conF [.any] sp_width)] (.cons (jaa jcM) (MutP.soundP jv6) (.cons (jaa jbs) (MutP.soundP jkI) (.cons (jaa jdL) (MutP.soundP jyG) (.cons (jaa jer) (Fresh.soundF jnf) GOk.nil)))) 119 3)) jd5 rfl rfl (by
 dsimp only[jiP,jiQ,jq0]at hG ⊢
 obtain⟨hr0,hz,hmo⟩:=hG
 have hle:=hz.le
 obtain⟨hk,hr,hl⟩:=hz
 have hr1:=hr0
 obtain⟨h1,h2,h3⟩:=hr0
 obtain⟨k,rfl⟩:∃n:Nat,k=n:=⟨k.toNat,by omega⟩
 obtain⟨r,rfl⟩:∃n:Nat,r=n:=⟨r.toNat,by omega⟩
 simp only[Int.toNat_natCast]at hl ⊢
 have hv:=jaO h3 a
 by_cases e1:jf6 d a=0
 ·have hW:rnsG d a k more.length L=rnG d k more.length (varV d a).toNat (a+varU d a) 0 L:=by rw[rnsG,if_neg (by simp[e1])]
  rw[hW]
  generalize hWg:rnG d k more.length (varV d a).toNat (a+varU d a) 0 L=W
  have hw:=e1
  repeat' first|exact hr1|simp only[PB,SA,MB,seval,rdB,jaI,jaJ,jac,jad,jaP,jaQ,jaK,tq0,tq1,tq2]|simp only[hw]|simp only[hw2]|simp only[hw3]|simp only[hw4]|refine tT ?_|refine And.intro ?_ ?_|exact tC|(refine tI ?_;intro hyp)|intro hyp0|omega
  have hr2:RdOk d (a+varU d a):=⟨jbz h1,h2,h3⟩
  have hn0:((varV d a).toNat:Int)=varV d a:=by omega
  have hn1:((varV d a).toNat:Int)<18446744073709551616:=by omega
  refine T.loop (fun q:Nat×Nat×Nat×List CD=>⟨[(0,.ptr 0 0 0),(2,.int .i64 q.2.2.1),(3,.int .i64 q.2.2.2.length),(4,.int .u64 q.1)],[RB 2 k r q.2.2.2.length x y hd mo ti l more,rdr d q.2.1 0,.seq .cell q.2.2.2]⟩) (fun q=>Few q.1∧RdOk d q.2.1∧q.2.2.1≤q.2.2.2.length∧q.2.2.2.length=L.length∧rnG d k more.length q.1 q.2.1 q.2.2.1 q.2.2.2=W) (fun q=>q.1) ((varV d a).toNat,a+varU d a,0,L) ⟨hn1,hr2,Nat.zero_le _,rfl,hWg⟩ (Cos.intro [0,1,2] [] rfl (by simp only[hn0];(simp only[PB,SA,MB,seval,rdB,jaI,jaJ,jac,jad,jaP,jaQ,jaK,tq0,tq1,tq2]<;>exact tE))) (fun q hq=>?_)
  obtain⟨n,a0,pos,cur⟩:=q
  obtain⟨hn,hra,hp,hcl,hg⟩:=hq
  dsimp only at hn hra hp hcl hg
  have hn':(n:Int)<18446744073709551616:=hn
  cases n with
  | zero =>
   simp only[rnG]at hg
   subst hg
   rw[jcv rfl,jcw rfl,←hcl]
   repeat' first|simp only[PB,SA,MB,seval,rdB,jaI,jaJ,jac,jad,jaP,jaQ,jaK,tq0,tq1,tq2]|simp only[hw]|simp only[hw2]|simp only[hw3]|simp only[hw4]|refine tT ?_|refine Cos.intro [0,1,2,2] [] rfl ?_|refine And.intro ?_ ?_|exact tC|(refine tI ?_;intro hyp)|intro hyp0|omega
  | succ n =>
   have g3:=hra.2.2
   obtain⟨a1,b1⟩:∃a1,a0+varU d a0=a1:=⟨_,rfl⟩
   obtain⟨a2,b2⟩:∃a2,a1+varU d a1=a2:=⟨_,rfl⟩
   obtain⟨a3,b3⟩:∃a3,a2+varU d a2=a3:=⟨_,rfl⟩
   obtain⟨a4,b4⟩:∃a4,a3+varU d a3=a4:=⟨_,rfl⟩
   obtain⟨a5,b5⟩:∃a5,a4+varU d a4=a5:=⟨_,rfl⟩
   obtain⟨a6,b6⟩:∃a6,a5+varU d a5=a6:=⟨_,rfl⟩
   have hr1:=jlg hra b1
   have hr2:=jlg hr1 b2
   have hr3:=jlg hr2 b3
   have hr4:=jlg hr3 b4
   have hr5:=jlg hr4 b5
   have hr6:=jlg hr5 b6
   have v0:=jaO g3 a0
   have v1:=jaO g3 a1
   have v2:=jaO g3 a2
   have v3:=jaO g3 a3
   have v4:=jaO g3 a4
   have v5:=jaO g3 a5
   have hp1:((pos+(varV d a0).toNat:Nat):Int)=pos+varV d a0:=by omega
   by_cases t1:upE d a0 ((cur.length:Int)-pos)=0
   case neg =>
    have hH:hdG d a0 pos cur.length more.length=jez (upE d a0 ((cur.length:Int)-pos)):=by simp only[hdG,t1,hp1,b1,b2,b3,b4,b5,ne_eq,not_true_eq_false,not_false_eq_true,if_true,if_false]
    rw[jlh hH t1]at hg
    subst hg
    rw[ja0 t1,ja1 t1]
    have hw2:=And.intro (b1) (And.intro (b2) (And.intro (b3) (And.intro (b4) (And.intro (b5) (And.intro (b6) (eq_false t1))))))
    repeat' first|exact hra|simp only[PB,SA,MB,seval,rdB,jaI,jaJ,jac,jad,jaP,jaQ,jaK,tq0,tq1,tq2]|simp only[hw]|simp only[hw2]|simp only[hw3]|simp only[hw4]|refine tT ?_|refine Cos.err (Cos.intro [0,1,2] [] rfl ?_)|refine And.intro ?_ ?_|exact tC|(refine tI ?_;intro hyp)|intro hyp0|omega
   have u1:=jcq t1
   by_cases t2:upE d a1 ((cur.length:Int)-(pos+varV d a0))=0
   case neg =>
    have hH:hdG d a0 pos cur.length more.length=jez (upE d a1 ((cur.length:Int)-(pos+varV d a0))):=by simp only[hdG,t1,t2,hp1,b1,b2,b3,b4,b5,ne_eq,not_true_eq_false,not_false_eq_true,if_true,if_false]
    rw[jlh hH t2]at hg
    subst hg
    rw[ja0 t2,ja1 t2]
    have hw2:=And.intro (b1) (And.intro (b2) (And.intro (b3) (And.intro (b4) (And.intro (b5) (And.intro (b6) (And.intro (t1) (eq_false t2)))))))
    repeat' first|exact hra|exact hr1|simp only[PB,SA,MB,seval,rdB,jaI,jaJ,jac,jad,jaP,jaQ,jaK,tq0,tq1,tq2]|simp only[hw]|simp only[hw2]|simp only[hw3]|simp only[hw4]|refine tT ?_|refine Cos.err (Cos.intro [0,1,2] [] rfl ?_)|refine And.intro ?_ ?_|exact tC|(refine tI ?_;intro hyp)|intro hyp0|omega
   have u2:=jcq t2
   by_cases t3:varV d a1=0
   case pos =>
    have hH:hdG d a0 pos cur.length more.length=jez (3):=by simp only[hdG,t1,t2,t3,hp1,b1,b2,b3,b4,b5,ne_eq,not_true_eq_false,not_false_eq_true,if_true,if_false]
    rw[jlh hH (by decide)]at hg
    subst hg
    rw[ja0 (by decide),ja1 (by decide)]
    have hw2:=And.intro (b1) (And.intro (b2) (And.intro (b3) (And.intro (b4) (And.intro (b5) (And.intro (b6) (And.intro (t1) (And.intro (t2) (t3))))))))
    repeat' first|exact hra|exact hr1|simp only[PB,SA,MB,seval,rdB,jaI,jaJ,jac,jad,jaP,jaQ,jaK,tq0,tq1,tq2]|simp only[hw]|simp only[hw2]|simp only[hw3]|simp only[hw4]|refine tT ?_|refine Cos.err (Cos.intro [0,1,2] [] rfl ?_)|refine And.intro ?_ ?_|exact tC|(refine tI ?_;intro hyp)|intro hyp0|omega
   by_cases t4:colE d a2=0
   case neg =>
    have hH:hdG d a0 pos cur.length more.length=jez (colE d a2):=by simp only[hdG,t1,t2,t3,t4,hp1,b1,b2,b3,b4,b5,ne_eq,not_true_eq_false,not_false_eq_true,if_true,if_false]
    rw[jlh hH t4]at hg
    subst hg
    rw[ja0 t4,ja1 t4]
    have hw2:=And.intro (b1) (And.intro (b2) (And.intro (b3) (And.intro (b4) (And.intro (b5) (And.intro (b6) (And.intro (t1) (And.intro (t2) (And.intro (eq_false t3) (eq_false t4)))))))))
    repeat' first|exact hra|exact hr1|exact hr2|simp only[PB,SA,MB,seval,rdB,jaI,jaJ,jac,jad,jaP,jaQ,jaK,tq0,tq1,tq2]|simp only[hw]|simp only[hw2]|simp only[hw3]|simp only[hw4]|refine tT ?_|refine Cos.err (Cos.intro [0,1,2] [] rfl ?_)|refine And.intro ?_ ?_|exact tC|(refine tI ?_;intro hyp)|intro hyp0|omega
   have u4:=jcq (jsu t4)
   by_cases t5:colE d a3=0
   case neg =>
    have hH:hdG d a0 pos cur.length more.length=jez (colE d a3):=by simp only[hdG,t1,t2,t3,t4,t5,hp1,b1,b2,b3,b4,b5,ne_eq,not_true_eq_false,not_false_eq_true,if_true,if_false]
    rw[jlh hH t5]at hg
    subst hg
    rw[ja0 t5,ja1 t5]
    have hw2:=And.intro (b1) (And.intro (b2) (And.intro (b3) (And.intro (b4) (And.intro (b5) (And.intro (b6) (And.intro (t1) (And.intro (t2) (And.intro (eq_false t3) (And.intro (t4) (eq_false t5))))))))))
    repeat' first|exact hra|exact hr1|exact hr2|exact hr3|simp only[PB,SA,MB,seval,rdB,jaI,jaJ,jac,jad,jaP,jaQ,jaK,tq0,tq1,tq2]|simp only[hw]|simp only[hw2]|simp only[hw3]|simp only[hw4]|refine tT ?_|refine Cos.err (Cos.intro [0,1,2] [] rfl ?_)|refine And.intro ?_ ?_|exact tC|(refine tI ?_;intro hyp)|intro hyp0|omega
   have u5:=jcq (jsu t5)
   by_cases t6:upE d a4 255=0
   case neg =>
    have hH:hdG d a0 pos cur.length more.length=jez (upE d a4 255):=by simp only[hdG,t1,t2,t3,t4,t5,t6,hp1,b1,b2,b3,b4,b5,ne_eq,not_true_eq_false,not_false_eq_true,if_true,if_false]
    rw[jlh hH t6]at hg
    subst hg
    rw[ja0 t6,ja1 t6]
    have hw2:=And.intro (b1) (And.intro (b2) (And.intro (b3) (And.intro (b4) (And.intro (b5) (And.intro (b6) (And.intro (t1) (And.intro (t2) (And.intro (eq_false t3) (And.intro (t4) (And.intro (t5) (eq_false t6)))))))))))
    repeat' first|exact hra|exact hr1|exact hr2|exact hr3|exact hr4|simp only[PB,SA,MB,seval,rdB,jaI,jaJ,jac,jad,jaP,jaQ,jaK,tq0,tq1,tq2]|simp only[hw]|simp only[hw2]|simp only[hw3]|simp only[hw4]|refine tT ?_|refine Cos.err (Cos.intro [0,1,2] [] rfl ?_)|refine And.intro ?_ ?_|exact tC|(refine tI ?_;intro hyp)|intro hyp0|omega
   have u6:=jcq t6
   by_cases t7:upE d a5 more.length=0
   case neg =>
    have hH:hdG d a0 pos cur.length more.length=jez (upE d a5 more.length):=by simp only[hdG,t1,t2,t3,t4,t5,t6,t7,hp1,b1,b2,b3,b4,b5,ne_eq,not_true_eq_false,not_false_eq_true,if_true,if_false]
    rw[jlh hH t7]at hg
    subst hg
    rw[ja0 t7,ja1 t7]
    have hw2:=And.intro (b1) (And.intro (b2) (And.intro (b3) (And.intro (b4) (And.intro (b5) (And.intro (b6) (And.intro (t1) (And.intro (t2) (And.intro (eq_false t3) (And.intro (t4) (And.intro (t5) (And.intro (t6) (eq_false t7))))))))))))
    repeat' first|exact hra|exact hr1|exact hr2|exact hr3|exact hr4|exact hr5|simp only[PB,SA,MB,seval,rdB,jaI,jaJ,jac,jad,jaP,jaQ,jaK,tq0,tq1,tq2]|simp only[hw]|simp only[hw2]|simp only[hw3]|simp only[hw4]|refine tT ?_|refine Cos.err (Cos.intro [0,1,2] [] rfl ?_)|refine And.intro ?_ ?_|exact tC|(refine tI ?_;intro hyp)|intro hyp0|omega
   have u7:=jcq t7
   have hH:hdG d a0 pos cur.length more.length=⟨0,a6,pos+(varV d a0).toNat,(varV d a1).toNat,⟨varV d a2,varV d a3,varV d a4,varV d a5⟩⟩:=by simp only[hdG,t1,t2,t3,t4,t5,t6,t7,hp1,b1,b2,b3,b4,b5,b6,ne_eq,not_true_eq_false,not_false_eq_true,if_true,if_false]
   obtain⟨U,hU⟩:∃U,letG d k ⟨varV d a2,varV d a3,varV d a4,varV d a5⟩ (varV d a1).toNat a6 (pos+(varV d a0).toNat) cur=U:=⟨_,rfl⟩
   rw[jCC hH hU]at hg
   have hw2:=And.intro (b1) (And.intro (b2) (And.intro (b3) (And.intro (b4) (And.intro (b5) (And.intro (b6) (And.intro (t1) (And.intro (t2) (And.intro (eq_false t3) (And.intro (t4) (And.intro (t5) (And.intro (t6) (t7))))))))))))
   have hw3:=And.intro (w_u8 (n:=varV d a4) (by omega)) (jpy (n:=varV d a5) (by omega))
   repeat' first|exact hra|exact hr1|exact hr2|exact hr3|exact hr4|exact hr5|simp only[PB,SA,MB,seval,rdB,jaI,jaJ,jac,jad,jaP,jaQ,jaK,tq0,tq1,tq2]|simp only[hw]|simp only[hw2]|simp only[hw3]|simp only[hw4]|refine tT ?_|refine And.intro ?_ ?_|exact tC|(refine tI ?_;intro hyp)|intro hyp0|omega
   have hN:((varV d a1).toNat:Int)=varV d a1:=by omega
   have hp0:pos+(varV d a0).toNat≤cur.length:=by omega
   refine T.loop (fun q:Nat×Nat×Nat×List CD=>⟨[(0,.ptr 0 0 0),(2,.int .i64 q.2.2.1),(3,.int .i64 q.2.2.2.length),(4,.int .u64 ((n+1:Nat):Int)),(6,.ptr 3 0 0),(52,.int .i64 (varV d a1)),(53,.int .i64 q.1)],[RB 2 k r q.2.2.2.length x y hd mo ti l more,rdr d q.2.1 0,.seq .cell q.2.2.2,.box [.int .u32 (varV d a2),.int .u32 (varV d a3),.int .u8 (varV d a4),.int .u16 (varV d a5)]]⟩) (fun q=>q.1≤(varV d a1).toNat∧RdOk d q.2.1∧q.2.2.1≤q.2.2.2.length∧q.2.2.2.length=L.length∧letG d k ⟨varV d a2,varV d a3,varV d a4,varV d a5⟩ ((varV d a1).toNat-q.1) q.2.1 q.2.2.1 q.2.2.2=U) (fun q=>(varV d a1).toNat-q.1) (0,a6,pos+(varV d a0).toNat,cur) ⟨Nat.zero_le _,hr6,hp0,hcl,hU⟩ (Cos.intro [0,1,2,3] [] rfl (by simp only[hp1];(simp only[PB,SA,MB,seval,rdB,jaI,jaJ,jac,jad,jaP,jaQ,jaK,tq0,tq1,tq2]<;>exact tE))) (fun q hq=>?_)
   clear hw2 hw3
   obtain⟨i,c0,ps,crr⟩:=q
   obtain⟨hi,hra',hp',hcl',hU'⟩:=hq
   dsimp only at hi hra' hp' hcl' hU'
   have g4:=jaO g3 c0
   by_cases hiN:i<(varV d a1).toNat
   ·obtain⟨m,hm⟩:∃m,(varV d a1).toNat-i=m+1:=⟨(varV d a1).toNat-i-1,by omega⟩
    rw[hm]at hU'
    simp only[letG]at hU'
    by_cases s1:upE d c0 1114111=0
    case neg =>
     rw[if_pos s1]at hU'
     subst hU'
     rw[if_pos s1]at hg
     subst hg
     rw[ja0 s1,ja1 s1]
     have hw2:=eq_false s1
     repeat' first|exact hra'|simp only[PB,SA,MB,seval,rdB,jaI,jaJ,jac,jad,jaP,jaQ,jaK,tq0,tq1,tq2]|simp only[hw]|simp only[hw2]|simp only[hw3]|simp only[hw4]|refine tT ?_|refine Cos.err (Cos.intro [0,1,2] [] rfl ?_)|refine And.intro ?_ ?_|exact tC|(refine tI ?_;intro hyp)|intro hyp0|omega
    have w1:=jcq s1
    rw[if_neg (by simp[s1])]at hU'
    obtain⟨c1,b7⟩:∃c1,c0+varU d c0=c1:=⟨_,rfl⟩
    have hrc:=jlg hra' b7
    rw[b7]at hU'
    have hI:I32 (varV d c0):=by
     unfold I32
     omega
    have hw3:=And.intro (js3 (n:=varV d c0) (by omega)) (And.intro b7 s1)
    have hm1:((ps % k:Nat):Int)=(ps:Int) % (k:Int):=rfl
    have hm2:0≤(ps:Int) % (k:Int)∧(ps:Int) % (k:Int)<k:=by
     rw[←hm1]
     have:=Nat.mod_lt ps (show 0<k by omega)
     omega
    have hwd:=jyW (varV d c0)
    by_cases s2:Utf.width (varV d c0)=0∨ps=crr.length∨(k:Int)<((ps % k:Nat):Int)+Utf.width (varV d c0)
    ·rw[if_pos s2]at hU'
     subst hU'
     rw[if_pos (by decide)]at hg
     subst hg
     rw[ja0 (by decide),ja1 (by decide)]
     repeat' first|exact hra'|exact hI|simp only[PB,SA,MB,seval,rdB,jaI,jaJ,jac,jad,jaP,jaQ,jaK,tq0,tq1,tq2]|simp only[hw]|simp only[hw2]|simp only[hw3]|simp only[hw4]|refine tT ?_|refine Cos.err (Cos.intro [0,1,2] [] rfl ?_)|refine And.intro ?_ ?_|exact tC|(refine tI ?_;intro hyp)|intro hyp0|omega
    ·rw[if_neg s2]at hU'
     have s3:=not_or.mp s2
     have s4:=not_or.mp s3.2
     have s5:=s4.2
     rw[hm1]at s5
     have hput:(putL crr ps (varV d c0) (Utf.width (varV d c0)) ⟨varV d a2,varV d a3,varV d a4,varV d a5⟩).length=crr.length:=jsg _ _ _ _ _
     have hin:Utf.width (varV d c0)=2→ps+1<crr.length:=fun e=>by
      rw[e]at s5
      rw[hcl',hl]
      exact jBc (by rw[←hl,←hcl'];omega) (by omega)
     have hget:∀A:CD,(crr.set ps A).getD ps default=A:=fun A=>jfY (by omega)
     have hset:∀A B:CD,(crr.set ps A).set ps B=crr.set ps B:=fun A B=>List.set_set ..
     have hw4:=And.intro hget hset
     have hps:(ps:Int)+Utf.width (varV d c0)=((ps+(Utf.width (varV d c0)).toNat:Nat):Int):=by omega
     repeat' first|exact hra'|exact hI|exact hin ‹_›|exact Int.ofNat_lt.mpr (hin ‹_›)|simp only[PB,SA,MB,seval,rdB,jaI,jaJ,jac,jad,jaP,jaQ,jaK,tq0,tq1,tq2]|simp only[hw]|simp only[hw2]|simp only[hw3]|simp only[hw4]|refine tT ?_|refine And.intro ?_ ?_|exact tC|(refine tI ?_;intro hyp)|intro hyp0|omega
     ·have hx:=hin hyp
      refine⟨(i+1,c1,ps+(Utf.width (varV d c0)).toNat,putL crr ps (varV d c0) (Utf.width (varV d c0)) ⟨varV d a2,varV d a3,varV d a4,varV d a5⟩),⟨?_,hrc,?_,hput.trans hcl',?_⟩,?_,Cos.intro [0,1,2,3] [] rfl ?_⟩
      ·dsimp only
       omega
      ·dsimp only
       rw[hput]
       omega
      ·dsimp only
       rw[show (varV d a1).toNat-(i+1)=m by omega]
       exact hU'
      ·dsimp only
       omega
      ·dsimp only
       rw[hps,hput]
       rw[putL,if_pos hyp]
       (simp only[PB,SA,MB,seval,rdB,jaI,jaJ,jac,jad,jaP,jaQ,jaK,tq0,tq1,tq2]<;>exact tE)
     ·refine⟨(i+1,c1,ps+(Utf.width (varV d c0)).toNat,putL crr ps (varV d c0) (Utf.width (varV d c0)) ⟨varV d a2,varV d a3,varV d a4,varV d a5⟩),⟨?_,hrc,?_,hput.trans hcl',?_⟩,?_,Cos.intro [0,1,2,3] [] rfl ?_⟩
      ·dsimp only
       omega
      ·dsimp only
       rw[hput]
       omega
      ·dsimp only
       rw[show (varV d a1).toNat-(i+1)=m by omega]
       exact hU'
      ·dsimp only
       omega
      ·dsimp only
       rw[hps,hput]
       rw[putL,if_neg hyp]
       (simp only[PB,SA,MB,seval,rdB,jaI,jaJ,jac,jad,jaP,jaQ,jaK,tq0,tq1,tq2]<;>exact tE)
   ·rw[show (varV d a1).toNat-i=0 by omega]at hU'
    simp only[letG]at hU'
    subst hU'
    rw[if_neg (by simp)]at hg
    have hwr:IntKind.u64.wrap (((n+1:Nat):Int)-1)=n:=by
     rw[show ((n+1:Nat):Int)-1=n by omega]
     exact jpz (by omega)
    have hw2:=hwr
    repeat' first|simp only[PB,SA,MB,seval,rdB,jaI,jaJ,jac,jad,jaP,jaQ,jaK,tq0,tq1,tq2]|simp only[hw]|simp only[hw2]|simp only[hw3]|simp only[hw4]|refine tT ?_|refine And.intro ?_ ?_|exact tC|(refine tI ?_;intro hyp)|intro hyp0|omega
    exact⟨(n,c0,ps,crr),⟨by unfold Few;omega,hra',hp',hcl',hg⟩,Nat.lt_succ_self _,Cos.intro [0,1,2] [] rfl (by (simp only[PB,SA,MB,seval,rdB,jaI,jaJ,jac,jad,jaP,jaQ,jaK,tq0,tq1,tq2]<;>exact tE))⟩
 ·have hW:rnsG d a k more.length L=(jf6 d a,0,[]):=by rw[rnsG,if_pos e1]
  rw[hW,ja0 e1,ja1 e1]
  have hw:=eq_false e1
  repeat' first|exact hr1|simp only[PB,SA,MB,seval,rdB,jaI,jaJ,jac,jad,jaP,jaQ,jaK,tq0,tq1,tq2]|simp only[hw]|simp only[hw2]|simp only[hw3]|simp only[hw4]|refine tT ?_|refine Cos.err (Cos.intro [0,1,2] [] rfl ?_)|refine And.intro ?_ ?_|exact tC|(refine tI ?_;intro hyp)|intro hyp0|omega)
end
end Go.Proofs.YtcfkfgkndncanaaGreatDoor
