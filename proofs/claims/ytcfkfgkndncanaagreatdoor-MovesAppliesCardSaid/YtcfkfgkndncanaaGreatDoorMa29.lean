/- Texts of this claim, merged by a program of this claim: FDif, FDif3, FApply2, FApply3, FApply4, ThingM. -/
import Derived.Test.YtcfkfgkndncanaaGreatDoorMa16
import Derived.Test.YtcfkfgkndncanaaGreatDoorMa21
import Derived.Test.YtcfkfgkndncanaaGreatDoorMa22
import Derived.Test.YtcfkfgkndncanaaGreatDoorMa23
import Derived.Test.YtcfkfgkndncanaaGreatDoorMa24
import Derived.Test.YtcfkfgkndncanaaGreatDoorMa28
namespace Go.Proofs.YtcfkfgkndncanaaGreatDoor
set_option linter.unusedVariables false
set_option linter.unusedSimpArgs false
section
open Go.RowKit
set_option maxRecDepth 100000
set_option maxHeartbeats 4000000
theorem jwk (f:CD→CD){L:List CD}{i:Nat}(h:i<L.length):(half f L i).getD i default=L.getD i default:=by
 rw[List.getD_eq_getElem?_getD,jnL f (jcW h)]
 rfl
theorem jwl {f:CD→CD}{L:List CD}{i:Nat}(h:i<L.length) (e:f (L.getD i default)=L.getD i default):half f L (i+1)=half f L i:=by
 rw[←jnM f (jcW h),e]
 have hl:i<(half f L i).length:=by rw[jnK];exact h
 have:=jnL f (jcW h)
 rw[List.getElem?_eq_getElem hl]at this
 rw[←Option.some.inj this,List.set_getElem_self]
abbrev jrm (k:Int) (r:Int) (L:List CD) (x:Int) (y:Int) (hd:Bool) (mo:Int) (ti:ByteArray) (bl:List ByteArray) (links:List ByteArray):List CV:=[.agg [.int .i64 k,.int .i64 r,.vec .cell L,.int .i64 x,.int .i64 y,.bool hd,.int .u8 mo,.str ti,.vec .str bl],.vec .str links]
abbrev jrn (k:Int) (r:Int) (L:List CD) (x:Int) (y:Int) (hd:Bool) (mo:Int) (ti:ByteArray) (bl:List ByteArray) (links:List ByteArray):Prop×Res:=(L.length≤60000∧bl.length≤60000∧links.length≤60000∧(∀c∈L,CWf c)∧(∀c∈L,c.link≤bl.length),.ret (.vec .cell (L.map (ulf bl links))))
noncomputable def sp_under:Spec:=spOf (α:=Int×Int×(List CD)×Int×Int×Bool×Int×ByteArray×(List ByteArray)×(List ByteArray)) (fun⟨k,r,L,x,y,hd,mo,ti,bl,links⟩=>jrm k r L x y hd mo ti bl links) fun⟨k,r,L,x,y,hd,mo,ti,bl,links⟩=>jrn k r L x y hd mo ti bl links
theorem jcA (k:Int) (r:Int) (L:List CD) (x:Int) (y:Int) (hd:Bool) (mo:Int) (ti:ByteArray) (bl:List ByteArray) (links:List ByteArray):sp_under (jrm k r L x y hd mo ti bl links)=some (jrn k r L x y hd mo ti bl links):=jaq _ injS (k,r,L,x,y,hd,mo,ti,bl,links)
theorem jyj:Fresh Tryz.prog E0 85 sp_under:=Fresh.of fun⟨k,r,L,x,y,hd,mo,ti,bl,links⟩ hG=>TF.intro (V:=(VV [(24,conT [.sl .cell] sp_clone),(114,conF [.sl .str,.any] sp_sindex)] (.cons (jaa jbF) (Fresh.soundT jh1) (.cons (jaa jbW) (Fresh.soundF jlu) GOk.nil)) 41 0)) jfQ rfl rfl (by
 dsimp only[jrm,jrn]at hG ⊢
 obtain⟨hL,hb,hl,hc,hle⟩:=hG
 repeat' first|simp only[SA,seval,rdB,jaj,jbw]|simp only[hw]|simp only[hw2]|simp only[hw3]|refine tT ?_|refine Cos.intro [1] [] rfl ?_|refine And.intro ?_ ?_|exact tC|(refine tI ?_;intro hyp)|intro hyp0|omega
 refine T.loop (fun i:Nat=>⟨[(1,.vec .str links),(2,.ptr 0 0 0),(5,.slice 1 0 6 L.length L.length),(12,.int .i64 L.length),(13,.int .i64 i)],[.box [.int .i64 k,.int .i64 r,.vec .cell L,.int .i64 x,.int .i64 y,.bool hd,.int .u8 mo,.str ti,.vec .str bl],.seq .cell (half (ulf bl links) L i)]⟩) (fun i=>i≤L.length) (fun i=>L.length-i) 0 (by omega) (Cos.intro [0,1] [] rfl (by simp only[SA,seval,rdB,jaj,jbw];simp[half])) (fun i hi=>?_)
 have hhl:=jnK (ulf bl links) L i
 by_cases hil:i<L.length
 ·have hlk:=(hc _ (jdN hil)).link
  have hlb:=hle _ (jdN hil)
  have hw:=jwk (ulf bl links) hil
  have hst:=jnM (ulf bl links) (jcW hil)
  by_cases h0:0<(L.getD i default).link
  ·have hpl:=jdm links (bl.getD ((L.getD i default).link-1).toNat ETy.str.dflt)
   have hu:ulf bl links (L.getD i default)={ L.getD i default with link:=jbd links (bl.getD ((L.getD i default).link-1).toNat ETy.str.dflt)+1 }:=if_pos h0
   rw[hu]at hst
   have hw2:IntKind.u16.wrap ((L.getD i default).link-1)=(L.getD i default).link-1:=jnc (by omega)
   have hw3:IntKind.u16.wrap (jbd links (bl.getD ((L.getD i default).link-1).toNat ETy.str.dflt)+1)=jbd links (bl.getD ((L.getD i default).link-1).toNat ETy.str.dflt)+1:=jnc (by omega)
   repeat' first|simp only[SA,seval,rdB,jaj,jbw]|simp only[hw]|simp only[hw2]|simp only[hw3]|refine tT ?_|refine And.intro ?_ ?_|exact tC|(refine tI ?_;intro hyp)|intro hyp0|omega
   exact⟨i+1,by omega,by omega,Cos.intro [0,1] [] rfl (by rw[←hst];(simp only[SA,seval,rdB,jaj,jbw]<;>exact tE))⟩
  ·have hu:ulf bl links (L.getD i default)=L.getD i default:=if_neg h0
   have hsk:=jwl (f:=ulf bl links) hil hu
   repeat' first|simp only[SA,seval,rdB,jaj,jbw]|simp only[hw]|simp only[hw2]|simp only[hw3]|refine tT ?_|refine And.intro ?_ ?_|exact tC|(refine tI ?_;intro hyp)|intro hyp0|omega
   exact⟨i+1,by omega,by omega,Cos.intro [0,1] [] rfl (by rw[hsk];(simp only[SA,seval,rdB,jaj,jbw]<;>exact tE))⟩
 ·have e:half (ulf bl links) L i=L.map (ulf bl links):=jst _ _ _ (by omega)
  rw[e]
  have hlm:(L.map (ulf bl links)).length=L.length:=by simp
  repeat' first|simp only[SA,seval,rdB,jaj,jbw]|simp only[hw]|simp only[hw2]|simp only[hw3]|refine tT ?_|refine Cos.intro [1] [] rfl ?_|refine And.intro ?_ ?_|exact tC|(refine tI ?_;intro hyp)|intro hyp0|omega)
end
section
open Go.RowKit
set_option maxRecDepth 100000
set_option maxHeartbeats 4000000
theorem jz8:penB ⟨0,0,0,0⟩=true:=by decide
theorem ji2 {k r:Int}{L:List CD}(h:jcI k r L=true):(1≤k∧k≤80)∧(1≤r∧r≤24)∧(L.length:Int)=k*r∧L.length≤1920:=by
 have hg2:=h
 simp only[jcI,HB,ne_eq,reduceCtorEq]at hg2
 have hf:=jh7.1 hg2.1.1
 have h1:k*r≤80*r:=Int.mul_le_mul_of_nonneg_right (by omega) (by omega)
 refine⟨by omega,by omega,hg2.1.2,?_⟩
 have:=hg2.1.2
 omega
end
section
open Go.RowKit
set_option maxRecDepth 100000
set_option maxHeartbeats 4000000
theorem jib (d:List Int) (a:Nat) (m:Int):(jcM d a m).length≤d.length:=by
 unfold jcM
 split
 ·rw[List.length_take,List.length_drop]
  omega
 ·exact Nat.zero_le _
theorem joh {d:List Int}{a:Nat}{m:Int}(h:a≤d.length):a+jcU d a m≤d.length:=by
 have:=jbS h
 unfold jcU
 split
 ·rename_i q
  by_cases q1:varE d a=0
  ·by_cases q2:m<varV d a
   ·simp[jcB,q1,q2]at q
   ·by_cases q3:((d.length-(a+varU d a):Nat):Int)<varV d a
    ·simp[jcB,q1,q2,q3]at q
    ·omega
  ·simp[jcB,q1]at q
 ·omega
end
section
open Go.RowKit
set_option maxRecDepth 100000
set_option maxHeartbeats 4000000
def Szd (k r:Int) (L:List CD):Prop:=(1≤k∧k≤80)∧(1≤r∧r≤24)∧L.length=k.toNat*r.toNat
theorem Szd.le {k r:Int}{L:List CD}(h:Szd k r L):L.length≤1920:=by
 obtain⟨h1,h2,h3⟩:=h
 have:k.toNat*r.toNat≤80*24:=Nat.mul_le_mul (by omega) (by omega)
 omega
theorem jwm {k r v:Nat}(h:v+1≤r):(v+1)*k≤k*r:=by
 rw[Nat.mul_comm k r]
 exact Nat.mul_le_mul_right k h
def Few (n:Nat):Prop:=(n:Int)<18446744073709551616
end
section
open Go.RowKit
set_option maxRecDepth 100000
set_option maxHeartbeats 4000000
theorem jsD {d:List Int}{a:Nat}(h:colE d a=0):upE d a 4294967295=0:=by
 rcases jfm d a with q|q|q
 ·exact q.1
 ·rw[q.2.2]at h
  cases h
 ·exact absurd (q.2.symm.trans h) q.1
theorem jdQ {d:List Int}{a b:Nat}(h:RdOk d a) (e:a+varU d a=b):RdOk d b:=e▸⟨jbS h.1,h.2.1,h.2.2⟩
theorem jeR {d:List Int}{k nl n a pos:Nat}{L:List CD}{e:Int}(h:hdG d a pos L.length nl=jc3 e) (he:¬e=0):rnG d k nl (n+1) a pos L=(e,0,[]):=by
 simp only[rnG,h,jc3,ne_eq,he,not_false_eq_true,if_true]
theorem jAZ {d:List Int}{k nl n a pos a6 p1 N:Nat}{p:PD}{L:List CD}{U:Int×Nat×Nat×List CD}(h:hdG d a pos L.length nl=⟨0,a6,p1,N,p⟩) (hU:letG d k p N a6 p1 L=U):rnG d k nl (n+1) a pos L=if U.1≠0 then (U.1,0,[]) else rnG d k nl n U.2.1 U.2.2.1 U.2.2.2:=by
 simp only[rnG,h,hU,ne_eq,not_true_eq_false,if_false]
theorem jsE (r:Int):0≤Utf.width r∧Utf.width r≤2:=by
 unfold Utf.width
 repeat' split
 all_goals omega
theorem jro {k r pos:Nat}(h:pos<k*r) (hm:pos % k+2≤k):pos+1<k*r:=by
 have e:=Nat.div_add_mod pos k
 have hq:pos / k<r:=Nat.div_lt_of_lt_mul h
 have:k*(pos / k+1)≤k*r:=Nat.mul_le_mul_left k hq
 rw[Nat.mul_add,Nat.mul_one]at this
 omega
end
section
structure RS where
 k:Int
 r:Int
 L:List CD
 x:Int
 y:Int
 hd:Bool
 mo:Int
 ti:ByteArray
 l:List ByteArray
 more:List ByteArray
 a:Nat
def RS.bad:RS:=⟨0,0,[],0,0,false,0,jbl [],[],[],0⟩
def th1 (d:List Int) (s:RS):Int×RS :=
 if varE d s.a≠0 then (varE d s.a,.bad) else
 if varE d (s.a+varU d s.a)≠0 then (varE d (s.a+varU d s.a),.bad) else
 if 80<varV d s.a∨24<varV d (s.a+varU d s.a)∨varV d s.a*varV d (s.a+varU d s.a)=0 then (3,.bad) else
 (0,⟨varV d s.a,varV d (s.a+varU d s.a),List.replicate ((varV d s.a).toNat*(varV d (s.a+varU d s.a)).toNat) blank0,0,0,false,0,bs [],[],[],s.a+varU d s.a+varU d (s.a+varU d s.a)⟩)
def th2 (d:List Int) (s:RS):Int×RS :=
 if upE d s.a (s.k-1)≠0 then (upE d s.a (s.k-1),.bad) else
 if upE d (s.a+varU d s.a) (s.r-1)≠0 then (upE d (s.a+varU d s.a) (s.r-1),.bad) else
 if upE d (s.a+varU d s.a+varU d (s.a+varU d s.a)) 1≠0 then (upE d (s.a+varU d s.a+varU d (s.a+varU d s.a)) 1,.bad) else
 (0,{ s with x:=varV d s.a,y:=varV d (s.a+varU d s.a),hd:=decide (varV d (s.a+varU d s.a+varU d (s.a+varU d s.a))=1),a:=s.a+varU d s.a+varU d (s.a+varU d s.a)+varU d (s.a+varU d s.a+varU d (s.a+varU d s.a)) })
def th3 (d:List Int) (s:RS):Int×RS :=
 if jcB d s.a 64≠0 then (jcB d s.a 64,.bad) else (0,{ s with ti:=jbl (jcM d s.a 64),a:=s.a+jcU d s.a 64 })
def th4 (d:List Int) (s:RS):Int×RS :=
 if upE d s.a 2≠0 then (upE d s.a 2,.bad) else (0,{ s with mo:=varV d s.a,a:=s.a+varU d s.a })
def th5 (d:List Int) (s:RS):Int×RS :=
 if (lkG d s.a s.l).1≠0 then ((lkG d s.a s.l).1,.bad) else (0,{ s with more:=(lkG d s.a s.l).2.2,L:=s.L.map (ulf s.l (lkG d s.a s.l).2.2),a:=(lkG d s.a s.l).2.1 })
def ji3 (n:Int):Int:=if n % 2=0 then -n / 2 else (n+1) / 2
def th6 (d:List Int) (s:RS):Int×RS :=
 if upE d s.a (2*s.r-2)≠0 then (upE d s.a (2*s.r-2),.bad) else
 if varV d s.a=0 then (3,.bad) else
 (0,{ s with L:=(jcl (jbv s.L s.k.toNat s.r.toNat) (ji3 (varV d s.a))).flatten,a:=s.a+varU d s.a })
def th7 (d:List Int) (s:RS):Int×RS :=
 if (cpsG d s.a s.k.toNat s.r.toNat s.L).1≠0 then ((cpsG d s.a s.k.toNat s.r.toNat s.L).1,.bad) else
 (0,{ s with L:=(cpsG d s.a s.k.toNat s.r.toNat s.L).2.2,a:=(cpsG d s.a s.k.toNat s.r.toNat s.L).2.1 })
def th8 (d:List Int) (s:RS):Int×RS :=
 if (rnsG d s.a s.k.toNat s.more.length s.L).1≠0 then ((rnsG d s.a s.k.toNat s.more.length s.L).1,.bad) else
 (0,{ s with L:=(rnsG d s.a s.k.toNat s.more.length s.L).2.2,a:=(rnsG d s.a s.k.toNat s.more.length s.L).2.1 })
def thG (d:List Int) (kd:Int) (s:RS):Int×RS :=
 if kd=1 then th1 d s else if kd=2 then th2 d s else if kd=3 then th3 d s else if kd=4 then th4 d s else
 if kd=5 then th5 d s else if kd=6 then th6 d s else if kd=7 then th7 d s else th8 d s
end
end Go.Proofs.YtcfkfgkndncanaaGreatDoor
