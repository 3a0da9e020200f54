/- Texts of this claim, merged by a program of this claim: FApply. -/
import Derived.Test.YtcfkfgkndncanaaGreatDoorMs11
import Derived.Test.YtcfkfgkndncanaaGreatDoorMs12
import Derived.Test.YtcfkfgkndncanaaGreatDoorMs17
import Derived.Test.YtcfkfgkndncanaaGreatDoorMs20
namespace Go.Proofs.YtcfkfgkndncanaaGreatDoor
set_option linter.unusedVariables false
set_option linter.unusedSimpArgs false
section
open Go.RowKit
set_option maxRecDepth 100000
set_option maxHeartbeats 4000000
abbrev RB (b:Nat) (k r:Int) (n:Nat) (x y:Int) (hd:Bool) (mo:Int) (ti:ByteArray) (l more:List ByteArray):KB:=.box [.ptr 1 0 0,.int .i64 k,.int .i64 r,.slice b 0 6 n n,.int .i64 x,.int .i64 y,.bool hd,.int .u8 mo,.str ti,.vec .str l,.vec .str more]
def RdOk (d:List Int) (a:Nat):Prop:=a≤d.length∧d.length≤1000000∧Bts d
abbrev jl9 (k:Int) (r:Int) (L:List CD) (x:Int) (y:Int) (hd:Bool) (mo:Int) (ti:ByteArray) (l:List ByteArray) (more:List ByteArray) (d:List Int) (a:Nat) (e:Int):List CV:=[.ptr 0 0 0]
abbrev jma (k:Int) (r:Int) (L:List CD) (x:Int) (y:Int) (hd:Bool) (mo:Int) (ti:ByteArray) (l:List ByteArray) (more:List ByteArray) (d:List Int) (a:Nat) (e:Int):KH:=[RB 2 k r L.length x y hd mo ti l more,rdr d a e,.seq .cell L]
abbrev jv2 (k:Int) (r:Int) (L:List CD) (x:Int) (y:Int) (hd:Bool) (mo:Int) (ti:ByteArray) (l:List ByteArray) (more:List ByteArray) (d:List Int) (a:Nat) (e:Int):Prop×Res×KH:=(True,.ret (.tup []),[RB 2 k r L.length x y hd mo ti l more,rdr d a e,.seq .cell L])
noncomputable def jhU:MSpec:=jcS (α:=Int×Int×(List CD)×Int×Int×Bool×Int×ByteArray×(List ByteArray)×(List ByteArray)×(List Int)×Nat×Int) (fun⟨k,r,L,x,y,hd,mo,ti,l,more,d,a,e⟩=>(jl9 k r L x y hd mo ti l more d a e,jma k r L x y hd mo ti l more d a e)) fun⟨k,r,L,x,y,hd,mo,ti,l,more,d,a,e⟩=>jv2 k r L x y hd mo ti l more d a e
noncomputable def esp_must:ESpec:=jjo (α:=Int×Int×(List CD)×Int×Int×Bool×Int×ByteArray×(List ByteArray)×(List ByteArray)×(List Int)×Nat×Int) (fun⟨k,r,L,x,y,hd,mo,ti,l,more,d,a,e⟩=>(jl9 k r L x y hd mo ti l more d a e,jma k r L x y hd mo ti l more d a e)) fun⟨k,r,L,x,y,hd,mo,ti,l,more,d,a,e⟩=>e
theorem jnu:InjM (α:=Int×Int×(List CD)×Int×Int×Bool×Int×ByteArray×(List ByteArray)×(List ByteArray)×(List Int)×Nat×Int) (fun⟨k,r,L,x,y,hd,mo,ti,l,more,d,a,e⟩=>(jl9 k r L x y hd mo ti l more d a e,jma k r L x y hd mo ti l more d a e)):=injM
theorem jaB (k:Int) (r:Int) (L:List CD) (x:Int) (y:Int) (hd:Bool) (mo:Int) (ti:ByteArray) (l:List ByteArray) (more:List ByteArray) (d:List Int) (a:Nat) (e:Int):jhU (jl9 k r L x y hd mo ti l more d a e) (jma k r L x y hd mo ti l more d a e)=some (jv2 k r L x y hd mo ti l more d a e):=jbd _ jnu (k,r,L,x,y,hd,mo,ti,l,more,d,a,e)
theorem jaC (k:Int) (r:Int) (L:List CD) (x:Int) (y:Int) (hd:Bool) (mo:Int) (ti:ByteArray) (l:List ByteArray) (more:List ByteArray) (d:List Int) (a:Nat) (e:Int):esp_must (jl9 k r L x y hd mo ti l more d a e) (jma k r L x y hd mo ti l more d a e)=e:=jdC _ jnu (k,r,L,x,y,hd,mo,ti,l,more,d,a,e)
theorem jqu:MutP Tryz.prog E0 61 jhU esp_must:=MutP.of jnu fun⟨k,r,L,x,y,hd,mo,ti,l,more,d,a,e⟩ hG=>TF.intro (V:=(VV [(101,conM msp_werr)] (.cons (jaa jdq) (MutF.soundM ju1) GOk.nil) 12 3)) jbr rfl rfl (by
 dsimp only[jl9,jma,jv2]at hG ⊢
 by_cases he:e=0
 ·rw[jcv he,jcw he]
  have hw:=he
  repeat' first|simp only[PB,SA,MB,seval,rdB,jfJ]|simp only[hw]|refine tT ?_|refine Cos.intro [0,1,2] [] rfl ?_|refine And.intro ?_ ?_|exact tC|(refine tI ?_;intro hyp)|intro hyp0|omega
 ·rw[ja0 he,ja1 he]
  have hw:=eq_false he
  repeat' first|simp only[PB,SA,MB,seval,rdB,jfJ]|simp only[hw]|refine tT ?_|refine Cos.err (Cos.intro [0,1,2] [] rfl ?_)|refine And.intro ?_ ?_|exact tC|(refine tI ?_;intro hyp)|intro hyp0|omega)
theorem jv3 (d:List Int) (a:Nat) (most:Int):(varE d a=0∧(¬most<0∧varV d a≤most)∧upE d a most=0)∨(varE d a=0∧(most<0∨most<varV d a)∧upE d a most=3)∨(¬varE d a=0∧upE d a most=varE d a):=by
 unfold upE
 by_cases h:varE d a=0
 ·by_cases q:most<0∨most<varV d a
  ·exact .inr (.inl ⟨h,q,by rw[if_neg (by simp[h]),if_pos q]⟩)
  ·exact .inl ⟨h,by omega,by rw[if_neg (by simp[h]),if_neg q]⟩
 ·exact .inr (.inr ⟨h,if_pos h⟩)
abbrev jmb (k:Int) (r:Int) (L:List CD) (x:Int) (y:Int) (hd:Bool) (mo:Int) (ti:ByteArray) (l:List ByteArray) (more:List ByteArray) (d:List Int) (a:Nat) (most:Int):List CV:=[.ptr 0 0 0,.int .i64 most]
abbrev jmc (k:Int) (r:Int) (L:List CD) (x:Int) (y:Int) (hd:Bool) (mo:Int) (ti:ByteArray) (l:List ByteArray) (more:List ByteArray) (d:List Int) (a:Nat) (most:Int):KH:=[RB 2 k r L.length x y hd mo ti l more,rdr d a 0,.seq .cell L]
abbrev jv4 (k:Int) (r:Int) (L:List CD) (x:Int) (y:Int) (hd:Bool) (mo:Int) (ti:ByteArray) (l:List ByteArray) (more:List ByteArray) (d:List Int) (a:Nat) (most:Int):Prop×Res×KH:=(RdOk d a∧(-1000000000000≤most∧most≤1000000000000),.ret (.int .i64 (varV d a)),[RB 2 k r L.length x y hd mo ti l more,rdr d (a+varU d a) 0,.seq .cell L])
noncomputable def jfR:MSpec:=jcS (α:=Int×Int×(List CD)×Int×Int×Bool×Int×ByteArray×(List ByteArray)×(List ByteArray)×(List Int)×Nat×Int) (fun⟨k,r,L,x,y,hd,mo,ti,l,more,d,a,most⟩=>(jmb k r L x y hd mo ti l more d a most,jmc k r L x y hd mo ti l more d a most)) fun⟨k,r,L,x,y,hd,mo,ti,l,more,d,a,most⟩=>jv4 k r L x y hd mo ti l more d a most
noncomputable def esp_upto:ESpec:=jjo (α:=Int×Int×(List CD)×Int×Int×Bool×Int×ByteArray×(List ByteArray)×(List ByteArray)×(List Int)×Nat×Int) (fun⟨k,r,L,x,y,hd,mo,ti,l,more,d,a,most⟩=>(jmb k r L x y hd mo ti l more d a most,jmc k r L x y hd mo ti l more d a most)) fun⟨k,r,L,x,y,hd,mo,ti,l,more,d,a,most⟩=>upE d a most
theorem jnv:InjM (α:=Int×Int×(List CD)×Int×Int×Bool×Int×ByteArray×(List ByteArray)×(List ByteArray)×(List Int)×Nat×Int) (fun⟨k,r,L,x,y,hd,mo,ti,l,more,d,a,most⟩=>(jmb k r L x y hd mo ti l more d a most,jmc k r L x y hd mo ti l more d a most)):=injM
theorem jac (k:Int) (r:Int) (L:List CD) (x:Int) (y:Int) (hd:Bool) (mo:Int) (ti:ByteArray) (l:List ByteArray) (more:List ByteArray) (d:List Int) (a:Nat) (most:Int):jfR (jmb k r L x y hd mo ti l more d a most) (jmc k r L x y hd mo ti l more d a most)=some (jv4 k r L x y hd mo ti l more d a most):=jbd _ jnv (k,r,L,x,y,hd,mo,ti,l,more,d,a,most)
theorem jad (k:Int) (r:Int) (L:List CD) (x:Int) (y:Int) (hd:Bool) (mo:Int) (ti:ByteArray) (l:List ByteArray) (more:List ByteArray) (d:List Int) (a:Nat) (most:Int):esp_upto (jmb k r L x y hd mo ti l more d a most) (jmc k r L x y hd mo ti l more d a most)=upE d a most:=jdC _ jnv (k,r,L,x,y,hd,mo,ti,l,more,d,a,most)
theorem jkI:MutP Tryz.prog E0 62 jfR esp_upto:=MutP.of jnv fun⟨k,r,L,x,y,hd,mo,ti,l,more,d,a,most⟩ hG=>TF.intro (V:=(VV [(60,conM msp_wvar),(61,conP jhU esp_must)] (.cons (jaa jb1) (MutF.soundM jm6) (.cons (jaa jbr) (MutP.soundP jqu) GOk.nil)) 24 3)) jbs rfl rfl (by
 dsimp only[jmb,jmc,jv4]at hG ⊢
 obtain⟨⟨h1,h2,h3⟩,h4,h5⟩:=hG
 have hv:=jaO h3 a
 rcases jv3 d a most with⟨hE,hq,he⟩|⟨hE,hq,he⟩|⟨hE,he⟩
 ·rw[jcv he,jcw he]
  have hw:=And.intro hE (And.intro (jin (n:=most) (by omega) (by omega)) (jpA (n:=varV d a) (by omega)))
  repeat' first|exact h3 _ ‹_›|simp only[PB,SA,MB,seval,rdB,jao,jaB,jaC]|simp only[hw]|refine tT ?_|refine Cos.intro [0,1,2] [] rfl ?_|refine And.intro ?_ ?_|exact tC|(refine tI ?_;intro hyp)|intro hyp0|omega
 ·rw[ja0 (by omega),ja1 (by omega),he]
  have hw:=hE
  repeat' first|exact h3 _ ‹_›|simp only[PB,SA,MB,seval,rdB,jao,jaB,jaC]|simp only[hw]|refine tT ?_|refine Cos.err (Cos.intro [0,1,2] [] rfl ?_)|refine And.intro ?_ ?_|exact tC|(refine tI ?_;intro hyp)|intro hyp0|omega
  rw[jin (by omega) (by omega)]at hyp
  omega
 ·rw[ja0 (by omega),ja1 (by omega),he]
  repeat' first|exact h3 _ ‹_›|simp only[PB,SA,MB,seval,rdB,jao,jaB,jaC]|simp only[hw]|refine tT ?_|refine Cos.err (Cos.intro [0,1,2] [] rfl ?_)|refine And.intro ?_ ?_|exact tC|(refine tI ?_;intro hyp)|intro hyp0|omega)
theorem jqv (d:List Int) (a:Nat):(varE d a=0∧¬varV d a=0∧jf6 d a=0)∨(varE d a=0∧varV d a=0∧jf6 d a=3)∨(¬varE d a=0∧jf6 d a=varE d a):=by
 unfold jf6
 by_cases h:varE d a=0
 ·by_cases q:varV d a=0
  ·exact .inr (.inl ⟨h,q,by rw[if_neg (by simp[h]),if_pos q]⟩)
  ·exact .inl ⟨h,q,by rw[if_neg (by simp[h]),if_neg q]⟩
 ·exact .inr (.inr ⟨h,if_pos h⟩)
abbrev jmd (k:Int) (r:Int) (L:List CD) (x:Int) (y:Int) (hd:Bool) (mo:Int) (ti:ByteArray) (l:List ByteArray) (more:List ByteArray) (d:List Int) (a:Nat):List CV:=[.ptr 0 0 0]
abbrev jme (k:Int) (r:Int) (L:List CD) (x:Int) (y:Int) (hd:Bool) (mo:Int) (ti:ByteArray) (l:List ByteArray) (more:List ByteArray) (d:List Int) (a:Nat):KH:=[RB 2 k r L.length x y hd mo ti l more,rdr d a 0,.seq .cell L]
abbrev jv5 (k:Int) (r:Int) (L:List CD) (x:Int) (y:Int) (hd:Bool) (mo:Int) (ti:ByteArray) (l:List ByteArray) (more:List ByteArray) (d:List Int) (a:Nat):Prop×Res×KH:=(RdOk d a,.ret (.int .u64 (varV d a)),[RB 2 k r L.length x y hd mo ti l more,rdr d (a+varU d a) 0,.seq .cell L])
noncomputable def jjF:MSpec:=jcS (α:=Int×Int×(List CD)×Int×Int×Bool×Int×ByteArray×(List ByteArray)×(List ByteArray)×(List Int)×Nat) (fun⟨k,r,L,x,y,hd,mo,ti,l,more,d,a⟩=>(jmd k r L x y hd mo ti l more d a,jme k r L x y hd mo ti l more d a)) fun⟨k,r,L,x,y,hd,mo,ti,l,more,d,a⟩=>jv5 k r L x y hd mo ti l more d a
noncomputable def esp_some:ESpec:=jjo (α:=Int×Int×(List CD)×Int×Int×Bool×Int×ByteArray×(List ByteArray)×(List ByteArray)×(List Int)×Nat) (fun⟨k,r,L,x,y,hd,mo,ti,l,more,d,a⟩=>(jmd k r L x y hd mo ti l more d a,jme k r L x y hd mo ti l more d a)) fun⟨k,r,L,x,y,hd,mo,ti,l,more,d,a⟩=>jf6 d a
theorem jnw:InjM (α:=Int×Int×(List CD)×Int×Int×Bool×Int×ByteArray×(List ByteArray)×(List ByteArray)×(List Int)×Nat) (fun⟨k,r,L,x,y,hd,mo,ti,l,more,d,a⟩=>(jmd k r L x y hd mo ti l more d a,jme k r L x y hd mo ti l more d a)):=injM
theorem jaI (k:Int) (r:Int) (L:List CD) (x:Int) (y:Int) (hd:Bool) (mo:Int) (ti:ByteArray) (l:List ByteArray) (more:List ByteArray) (d:List Int) (a:Nat):jjF (jmd k r L x y hd mo ti l more d a) (jme k r L x y hd mo ti l more d a)=some (jv5 k r L x y hd mo ti l more d a):=jbd _ jnw (k,r,L,x,y,hd,mo,ti,l,more,d,a)
theorem jaJ (k:Int) (r:Int) (L:List CD) (x:Int) (y:Int) (hd:Bool) (mo:Int) (ti:ByteArray) (l:List ByteArray) (more:List ByteArray) (d:List Int) (a:Nat):esp_some (jmd k r L x y hd mo ti l more d a) (jme k r L x y hd mo ti l more d a)=jf6 d a:=jdC _ jnw (k,r,L,x,y,hd,mo,ti,l,more,d,a)
theorem jv6:MutP Tryz.prog E0 104 jjF esp_some:=MutP.of jnw fun⟨k,r,L,x,y,hd,mo,ti,l,more,d,a⟩ hG=>TF.intro (V:=(VV [(60,conM msp_wvar),(61,conP jhU esp_must)] (.cons (jaa jb1) (MutF.soundM jm6) (.cons (jaa jbr) (MutP.soundP jqu) GOk.nil)) 15 3)) jcM rfl rfl (by
 dsimp only[jmd,jme,jv5]at hG ⊢
 obtain⟨h1,h2,h3⟩:=hG
 have hv:=jaO h3 a
 rcases jqv d a with⟨hE,hq,he⟩|⟨hE,hq,he⟩|⟨hE,he⟩
 ·rw[jcv he,jcw he]
  have hw:=hE
  repeat' first|exact h3 _ ‹_›|simp only[PB,SA,MB,seval,rdB,jao,jaB,jaC]|simp only[hw]|refine tT ?_|refine Cos.intro [0,1,2] [] rfl ?_|refine And.intro ?_ ?_|exact tC|(refine tI ?_;intro hyp)|intro hyp0|omega
 ·rw[ja0 (by omega),ja1 (by omega),he]
  have hw:=hE
  repeat' first|exact h3 _ ‹_›|simp only[PB,SA,MB,seval,rdB,jao,jaB,jaC]|simp only[hw]|refine tT ?_|refine Cos.err (Cos.intro [0,1,2] [] rfl ?_)|refine And.intro ?_ ?_|exact tC|(refine tI ?_;intro hyp)|intro hyp0|omega
 ·rw[ja0 (by omega),ja1 (by omega),he]
  repeat' first|exact h3 _ ‹_›|simp only[PB,SA,MB,seval,rdB,jao,jaB,jaC]|simp only[hw]|refine tT ?_|refine Cos.err (Cos.intro [0,1,2] [] rfl ?_)|refine And.intro ?_ ?_|exact tC|(refine tI ?_;intro hyp)|intro hyp0|omega)
theorem jmf (d:List Int) (a:Nat):(upE d a 4294967295=0∧jeu (varV d a)=true∧colE d a=0)∨(upE d a 4294967295=0∧jeu (varV d a)=false∧colE d a=3)∨(¬upE d a 4294967295=0∧colE d a=upE d a 4294967295):=by
 unfold colE
 by_cases h:upE d a 4294967295=0
 ·cases q:jeu (varV d a)
  ·exact .inr (.inl ⟨h,rfl,by rw[if_neg (by simp[h])];rfl⟩)
  ·exact .inl ⟨h,rfl,by rw[if_neg (by simp[h])];rfl⟩
 ·exact .inr (.inr ⟨h,if_pos h⟩)
abbrev jiB (k:Int) (r:Int) (L:List CD) (x:Int) (y:Int) (hd:Bool) (mo:Int) (ti:ByteArray) (l:List ByteArray) (more:List ByteArray) (d:List Int) (a:Nat):List CV:=[.ptr 0 0 0]
abbrev jiC (k:Int) (r:Int) (L:List CD) (x:Int) (y:Int) (hd:Bool) (mo:Int) (ti:ByteArray) (l:List ByteArray) (more:List ByteArray) (d:List Int) (a:Nat):KH:=[RB 2 k r L.length x y hd mo ti l more,rdr d a 0,.seq .cell L]
abbrev jqw (k:Int) (r:Int) (L:List CD) (x:Int) (y:Int) (hd:Bool) (mo:Int) (ti:ByteArray) (l:List ByteArray) (more:List ByteArray) (d:List Int) (a:Nat):Prop×Res×KH:=(RdOk d a,.ret (.int .u32 (varV d a)),[RB 2 k r L.length x y hd mo ti l more,rdr d (a+varU d a) 0,.seq .cell L])
noncomputable def jkJ:MSpec:=jcS (α:=Int×Int×(List CD)×Int×Int×Bool×Int×ByteArray×(List ByteArray)×(List ByteArray)×(List Int)×Nat) (fun⟨k,r,L,x,y,hd,mo,ti,l,more,d,a⟩=>(jiB k r L x y hd mo ti l more d a,jiC k r L x y hd mo ti l more d a)) fun⟨k,r,L,x,y,hd,mo,ti,l,more,d,a⟩=>jqw k r L x y hd mo ti l more d a
noncomputable def esp_rdcol:ESpec:=jjo (α:=Int×Int×(List CD)×Int×Int×Bool×Int×ByteArray×(List ByteArray)×(List ByteArray)×(List Int)×Nat) (fun⟨k,r,L,x,y,hd,mo,ti,l,more,d,a⟩=>(jiB k r L x y hd mo ti l more d a,jiC k r L x y hd mo ti l more d a)) fun⟨k,r,L,x,y,hd,mo,ti,l,more,d,a⟩=>colE d a
theorem jkK:InjM (α:=Int×Int×(List CD)×Int×Int×Bool×Int×ByteArray×(List ByteArray)×(List ByteArray)×(List Int)×Nat) (fun⟨k,r,L,x,y,hd,mo,ti,l,more,d,a⟩=>(jiB k r L x y hd mo ti l more d a,jiC k r L x y hd mo ti l more d a)):=injM
theorem jaP (k:Int) (r:Int) (L:List CD) (x:Int) (y:Int) (hd:Bool) (mo:Int) (ti:ByteArray) (l:List ByteArray) (more:List ByteArray) (d:List Int) (a:Nat):jkJ (jiB k r L x y hd mo ti l more d a) (jiC k r L x y hd mo ti l more d a)=some (jqw k r L x y hd mo ti l more d a):=jbd _ jkK (k,r,L,x,y,hd,mo,ti,l,more,d,a)
theorem jaQ (k:Int) (r:Int) (L:List CD) (x:Int) (y:Int) (hd:Bool) (mo:Int) (ti:ByteArray) (l:List ByteArray) (more:List ByteArray) (d:List Int) (a:Nat):esp_rdcol (jiB k r L x y hd mo ti l more d a) (jiC k r L x y hd mo ti l more d a)=colE d a:=jdC _ jkK (k,r,L,x,y,hd,mo,ti,l,more,d,a)
theorem jyG:MutP Tryz.prog E0 106 jkJ esp_rdcol:=MutP.of jkK fun⟨k,r,L,x,y,hd,mo,ti,l,more,d,a⟩ hG=>TF.intro (V:=(VV [(62,conP jfR esp_upto),(127,conF [.any] sp_color)] (.cons (jaa jbs) (MutP.soundP jkI) (.cons (jaa jcy) (Fresh.soundF jng) GOk.nil)) 12 3)) jdL rfl rfl (by
 dsimp only[jiB,jiC,jqw]at hG ⊢
 have hr:=hG
 obtain⟨h1,h2,h3⟩:=hG
 have hv:=jaO h3 a
 rcases jmf d a with⟨hE,hq,he⟩|⟨hE,hq,he⟩|⟨hE,he⟩
 ·rw[jcv he,jcw he]
  have hu:=jcq hE
  have hw:=And.intro hE (And.intro hq (jBW (n:=varV d a) (by omega)))
  repeat' first|exact hr|simp only[PB,SA,MB,seval,rdB,jac,jad,jev]|simp only[hw]|refine tT ?_|refine Cos.intro [0,1,2] [] rfl ?_|refine And.intro ?_ ?_|exact tC|(refine tI ?_;intro hyp)|intro hyp0|omega
 ·rw[ja0 (by omega),ja1 (by omega),he]
  have hu:=jcq hE
  have hw:=And.intro hE (And.intro hq (jBW (n:=varV d a) (by omega)))
  repeat' first|exact hr|simp only[PB,SA,MB,seval,rdB,jac,jad,jev]|simp only[hw]|refine tT ?_|refine Cos.err (Cos.intro [0,1,2] [] rfl ?_)|refine And.intro ?_ ?_|exact tC|(refine tI ?_;intro hyp)|intro hyp0|omega
 ·rw[ja0 (by omega),ja1 (by omega),he]
  repeat' first|exact hr|simp only[PB,SA,MB,seval,rdB,jac,jad,jev]|simp only[hw]|refine tT ?_|refine Cos.err (Cos.intro [0,1,2] [] rfl ?_)|refine And.intro ?_ ?_|exact tC|(refine tI ?_;intro hyp)|intro hyp0|omega)
end
end Go.Proofs.YtcfkfgkndncanaaGreatDoor
