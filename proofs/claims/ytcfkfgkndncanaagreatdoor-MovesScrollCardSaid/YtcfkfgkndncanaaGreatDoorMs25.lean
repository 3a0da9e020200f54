/- Texts of this claim, merged by a program of this claim: FBytes. -/
import Derived.Test.YtcfkfgkndncanaaGreatDoorMs20
import Derived.Test.YtcfkfgkndncanaaGreatDoorMs24
namespace Go.Proofs.YtcfkfgkndncanaaGreatDoor
set_option linter.unusedVariables false
set_option linter.unusedSimpArgs false
section
open Go.RowKit
set_option maxRecDepth 100000
set_option maxHeartbeats 4000000
def jc7 (L:List Int):List Int:=L.flatMap fun x=>varN x.toNat
theorem jtw {L:List Int}{k:Nat}(h:k<L.length):jc7 (L.take (k+1))=jc7 (L.take k)++varN (L.getD k 0).toNat:=by
 rw[jaW (jbH (d:=0) h),jc7,List.flatMap_append]
 simp[jc7]
theorem jkV (L:List Int) (h:∀x∈L,x<18446744073709551616):(jc7 L).length≤10*L.length:=by
 induction L with
 | nil=>simp[jc7]
 | cons a L ih =>
  have h1:=jb2 a.toNat (by have:=h a (by simp);omega)
  have h2:=ih fun x hx=>h x (by simp[hx])
  simp only[jc7,List.flatMap_cons,List.length_append,List.length_cons]at *
  omega
theorem jwk {n:Int}(h0:0≤n) (h:¬n<128):varN n.toNat=(n % 128+128)::varN (n / 128).toNat:=by
 obtain⟨m,rfl⟩:∃m:Nat,n=m:=⟨n.toNat,by omega⟩
 rw[Int.toNat_natCast,jgE (by omega)]
 congr 1
theorem jkW {n:Int}(h0:0≤n) (h:n<128):varN n.toNat=[n]:=by
 rw[jek (by omega)]
 congr 1
 omega
theorem jCz (m:Int):IntKind.u8.wrap m=m % 256:=by
 simp only[IntKind.wrap,IntKind.signed,IntKind.bits,Bool.false_and,Bool.false_eq_true,if_false]
 rfl
theorem jCA {m:Int}(h:0≤m):((m % 256).toNat ||| 128)=(m % 128+128).toNat:=by
 have:=jv0 ⟨(m % 256).toNat,by omega⟩
 simp only at this
 rw[this]
 omega
abbrev jA4 (n:Int):List CV:=[.int .u64 n]
abbrev jA5 (n:Int):Prop×Res:=(0≤n∧n<18446744073709551616,.ret (.vec (.int .u8) (varN n.toNat)))
noncomputable def sp_var:Spec:=spOf (α:=Int) (fun n=>jA4 n) fun n=>jA5 n
theorem ja9 (n:Int):sp_var (jA4 n)=some (jA5 n):=jak _ injS n
theorem jwl:Fresh Tryz.prog E0 113 sp_var:=Fresh.of fun n hG=>TF.intro (V:=(VV [] GOk.nil 19 0)) jfu rfl rfl (by
 dsimp only[jA4,jA5]at hG ⊢
 repeat' first|simp only[SA,seval,rdB]|simp only[hw]|simp only[hw2]|refine tT ?_|refine And.intro ?_ ?_|exact tC|(refine tI ?_;intro hyp)|intro hyp0|omega
 refine T.loop (fun x:List Int×Int=>⟨[(0,.int .u64 x.2),(3,.slice 0 0 1 x.1.length x.1.length)],[.seq (.int .u8) x.1]⟩) (fun x=>(0≤x.2∧x.2<18446744073709551616)∧varN n.toNat=x.1++varN x.2.toNat) (fun x=>x.2.toNat) ([],n) ⟨by omega,rfl⟩ (Cos.intro [99] [] rfl (by simp only[SA,seval,rdB];first|done|simp[crs,crsL,jct])) (fun⟨P,m⟩ ⟨hm,hv⟩=>?_)
 dsimp only at hm hv ⊢
 have h10:=jb2 n.toNat (by omega)
 have hlen:=congrArg List.length hv
 rw[List.length_append]at hlen
 have hpos:=jyE m.toNat
 have hw:=jCz m
 have hw2:=jCA hm.1
 repeat' first|exact (by decide:(7:Int)≤64)|simp only[SA,seval,rdB]|simp only[hw]|simp only[hw2]|refine tT ?_|refine And.intro ?_ ?_|exact tC|(refine tI ?_;intro hyp)|intro hyp0|omega
 ·refine⟨(P++[m % 128+128],m / 128),⟨by simp only;omega,?_⟩,by simp only;omega,Cos.intro [2] [] rfl ?_⟩
  ·rw[hv,jwk hm.1 (by omega)]
   simp
  ·rw[show ((m % 128+128).toNat:Int)=m % 128+128 by omega]
   simp only[SA,seval,rdB]
   simp
 ·exact Cos.row (t:=.int .u8) (L:=varN n.toNat) rfl (by rw[hv,jkW hm.1 (by omega),show m % 256=m by omega]) (by simp) (by simp))
abbrev jwm (L:List Int):List CV:=[.vec (.int .i64) L]
abbrev jwn (L:List Int):Prop×Res:=((∀x∈L,0≤x∧x<9223372036854775808)∧L.length≤100000,.ret (.vec (.int .u8) (jc7 L)))
noncomputable def sp_vars:Spec:=spOf (α:=(List Int)) (fun L=>jwm L) fun L=>jwn L
theorem jaF (L:List Int):sp_vars (jwm L)=some (jwn L):=jak _ injS L
theorem jqG:Fresh Tryz.prog E0 91 sp_vars:=Fresh.of fun L hG=>TF.intro (V:=(VV [(113,conT [.any] sp_var)] (.cons (jaa jfu) (Fresh.soundT jwl) GOk.nil) 19 0)) jdR rfl rfl (by
 dsimp only[jwm,jwn]at hG ⊢
 obtain⟨hL,hl⟩:=hG
 repeat' first|simp only[SA,seval,rdB,ja9]|simp only[hw]|refine tT ?_|refine And.intro ?_ ?_|exact tC|(refine tI ?_;intro hyp)|intro hyp0|omega
 refine T.loop (fun k:Nat=>⟨[(3,.slice 0 0 1 (jc7 (L.take k)).length (jc7 (L.take k)).length),(6,.vec (.int .i64) L),(7,.int .i64 L.length),(8,.int .i64 k)],[.seq (.int .u8) (jc7 (L.take k))]⟩) (fun k=>k≤L.length) (fun k=>L.length-k) 0 (by omega) (Cos.intro [99] [] rfl (by simp only[SA,seval,rdB,ja9];simp[jc7,crs,crsL,jct])) (fun k hk=>?_)
 have hvl:=jkV (L.take k) fun x hx=>by have:=hL x (List.mem_of_mem_take hx);omega
 rw[List.length_take]at hvl
 by_cases hkl:k<L.length
 ·have hx:=hL _ (List.mem_of_getElem? (jbH (d:=0) hkl))
  have h10:=jb2 (L.getD k 0).toNat (by omega)
  have hw:IntKind.u64.wrap (L.getD k 0)=L.getD k 0:=jpz (by omega)
  have hsn:=jtw hkl
  repeat' first|simp only[SA,seval,rdB,ja9]|simp only[hw]|refine tT ?_|refine And.intro ?_ ?_|exact tC|(refine tI ?_;intro hyp)|intro hyp0|omega
  refine⟨k+1,by omega,by omega,Cos.intro [2] [] rfl ?_⟩
  rw[hsn]
  (simp only[SA,seval,rdB,ja9]<;>exact tE)
 ·have e:L.take k=L:=List.take_of_length_le (by omega)
  rw[e]
  repeat' first|simp only[SA,seval,rdB,ja9]|simp only[hw]|refine tT ?_|refine Cos.intro [0] [] rfl ?_|refine And.intro ?_ ?_|exact tC|(refine tI ?_;intro hyp)|intro hyp0|omega)
abbrev jA6 (b:Int) (L:List Int):List CV:=[.int .u8 b,.vec (.int .i64) L]
abbrev jA7 (b:Int) (L:List Int):Prop×Res:=((∀x∈L,0≤x∧x<9223372036854775808)∧L.length≤100000,.ret (.vec (.int .u8) (b::jc7 L)))
noncomputable def sp_put:Spec:=spOf (α:=Int×(List Int)) (fun⟨b,L⟩=>jA6 b L) fun⟨b,L⟩=>jA7 b L
theorem jae (b:Int) (L:List Int):sp_put (jA6 b L)=some (jA7 b L):=jak _ injS (b,L)
theorem jsq:Fresh Tryz.prog E0 49 sp_put:=Fresh.of fun⟨b,L⟩ hG=>TF.intro (V:=(VV [(91,conT [.sl (.int .i64)] sp_vars)] (.cons (jaa jdR) (Fresh.soundT jqG) GOk.nil) 10 0)) jdw rfl rfl (by
 dsimp only[jA6,jA7]at hG ⊢
 obtain⟨hL,hl⟩:=hG
 have hvl:=jkV L fun x hx=>by have:=hL x hx;omega
 repeat' first|exact hL|simp only[SA,seval,rdB,jaF]|refine tT ?_|refine And.intro ?_ ?_|exact tC|(refine tI ?_;intro hyp)|intro hyp0|omega
 exact Cos.intro [2] [] rfl (by (simp only[SA,seval,rdB,jaF]<;>exact tE)))
abbrev jwo (L:List Int):List CV:=[.vec (.int .u8) L]
abbrev jwp (L:List Int):Prop×Res:=(L.length≤4096,.ret (.tup [.vec (.int .u8) (jjp L),.int .i64 0]))
noncomputable def sp_text:Spec:=spOf (α:=(List Int)) (fun L=>jwo L) fun L=>jwp L
theorem jaz (L:List Int):sp_text (jwo L)=some (jwp L):=jak _ injS L
theorem jA8:Fresh Tryz.prog E0 83 sp_text:=Fresh.of fun L hG=>TF.intro (V:=(VV [(113,conT [.any] sp_var)] (.cons (jaa jfu) (Fresh.soundT jwl) GOk.nil) 13 0)) jhk rfl rfl (by
 dsimp only[jwo,jwp]at hG ⊢
 have hw:IntKind.u64.wrap L.length=L.length:=jpz (by omega)
 have h10:=jb2 L.length (by omega)
 repeat' first|simp only[SA,seval,rdB,ja9]|simp only[hw]|refine tT ?_|refine And.intro ?_ ?_|exact tC|(refine tI ?_;intro hyp)|intro hyp0|omega
 refine Cos.intro [1] [] rfl ?_
 simp only[jjp]
 (simp only[SA,seval,rdB,ja9]<;>exact tE))
end
end Go.Proofs.YtcfkfgkndncanaaGreatDoor
