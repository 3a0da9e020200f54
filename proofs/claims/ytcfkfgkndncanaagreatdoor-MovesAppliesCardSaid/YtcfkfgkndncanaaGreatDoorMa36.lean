/- Texts of this claim, merged by a program of this claim: FQ1. -/
import Derived.Test.YtcfkfgkndncanaaGreatDoorMa29
namespace Go.Proofs.YtcfkfgkndncanaaGreatDoor
set_option linter.unusedVariables false
set_option linter.unusedSimpArgs false
section
open Go.RowKit
set_option maxRecDepth 100000
set_option maxHeartbeats 4000000
abbrev RBs (b s:Nat) (k r:Int) (n:Nat) (x y:Int) (hd:Bool) (mo:Int) (ti:ByteArray) (ll:Nat):KB:=.box [.ptr 1 0 0,.int .i64 k,.int .i64 r,.slice b 0 6 n n,.int .i64 x,.int .i64 y,.bool hd,.int .u8 mo,.str ti,.slice s 0 1 ll ll,.slice s 0 1 ll ll]
abbrev RBd (b l m:Nat) (k r:Int) (n:Nat) (x y:Int) (hd:Bool) (mo:Int) (ti:ByteArray) (ll ml:Nat):KB:=.box [.ptr 1 0 0,.int .i64 k,.int .i64 r,.slice b 0 6 n n,.int .i64 x,.int .i64 y,.bool hd,.int .u8 mo,.str ti,.slice l 0 1 ll ll,.slice m 0 1 ml ml]
abbrev ji6 (k:Int) (r:Int) (L:List CD) (x:Int) (y:Int) (hd:Bool) (mo:Int) (ti:ByteArray) (l:List ByteArray) (d:List Int) (a:Nat) (e:Int):List CV:=[.ptr 0 0 0]
abbrev ji7 (k:Int) (r:Int) (L:List CD) (x:Int) (y:Int) (hd:Bool) (mo:Int) (ti:ByteArray) (l:List ByteArray) (d:List Int) (a:Nat) (e:Int):KH:=[RBs 2 3 k r L.length x y hd mo ti l.length,rdr d a e,.seq .cell L,.seq .str l]
abbrev jrv (k:Int) (r:Int) (L:List CD) (x:Int) (y:Int) (hd:Bool) (mo:Int) (ti:ByteArray) (l:List ByteArray) (d:List Int) (a:Nat) (e:Int):Prop×Res×KH:=(True,.ret (.tup []),[RBs 2 3 k r L.length x y hd mo ti l.length,rdr d a e,.seq .cell L,.seq .str l])
noncomputable def jie:MSpec:=jcH (α:=Int×Int×(List CD)×Int×Int×Bool×Int×ByteArray×(List ByteArray)×(List Int)×Nat×Int) (fun⟨k,r,L,x,y,hd,mo,ti,l,d,a,e⟩=>(ji6 k r L x y hd mo ti l d a e,ji7 k r L x y hd mo ti l d a e)) fun⟨k,r,L,x,y,hd,mo,ti,l,d,a,e⟩=>jrv k r L x y hd mo ti l d a e
noncomputable def esp_mustS:ESpec:=jgW (α:=Int×Int×(List CD)×Int×Int×Bool×Int×ByteArray×(List ByteArray)×(List Int)×Nat×Int) (fun⟨k,r,L,x,y,hd,mo,ti,l,d,a,e⟩=>(ji6 k r L x y hd mo ti l d a e,ji7 k r L x y hd mo ti l d a e)) fun⟨k,r,L,x,y,hd,mo,ti,l,d,a,e⟩=>e
theorem jlO:InjM (α:=Int×Int×(List CD)×Int×Int×Bool×Int×ByteArray×(List ByteArray)×(List Int)×Nat×Int) (fun⟨k,r,L,x,y,hd,mo,ti,l,d,a,e⟩=>(ji6 k r L x y hd mo ti l d a e,ji7 k r L x y hd mo ti l d a e)):=injM
theorem jbt (k:Int) (r:Int) (L:List CD) (x:Int) (y:Int) (hd:Bool) (mo:Int) (ti:ByteArray) (l:List ByteArray) (d:List Int) (a:Nat) (e:Int):jie (ji6 k r L x y hd mo ti l d a e) (ji7 k r L x y hd mo ti l d a e)=some (jrv k r L x y hd mo ti l d a e):=jbn _ jlO (k,r,L,x,y,hd,mo,ti,l,d,a,e)
theorem jbu (k:Int) (r:Int) (L:List CD) (x:Int) (y:Int) (hd:Bool) (mo:Int) (ti:ByteArray) (l:List ByteArray) (d:List Int) (a:Nat) (e:Int):esp_mustS (ji6 k r L x y hd mo ti l d a e) (ji7 k r L x y hd mo ti l d a e)=e:=jcJ _ jlO (k,r,L,x,y,hd,mo,ti,l,d,a,e)
theorem jsL:MutP Tryz.prog E0 61 jie esp_mustS:=MutP.of jlO fun⟨k,r,L,x,y,hd,mo,ti,l,d,a,e⟩ hG=>TF.intro (V:=(VV [(101,conM msp_werr)] (.cons (jaa jcS) (MutF.soundM jqi) GOk.nil) 12 4)) jbr rfl rfl (by
 dsimp only[ji6,ji7,jrv]at hG ⊢
 by_cases he:e=0
 ·rw[jcy he,jcz he]
  have hw:=he
  repeat' first|simp only[PB,SA,MB,seval,rdB,jdw,tq0,tq1,tq2]|simp only[hw]|refine tT ?_|refine Cos.intro [0,1,2,3] [] rfl ?_|refine And.intro ?_ ?_|exact tC|(refine tI ?_;intro hyp)|intro hyp0|omega
 ·rw[jbj he,jbk he]
  have hw:=eq_false he
  repeat' first|simp only[PB,SA,MB,seval,rdB,jdw,tq0,tq1,tq2]|simp only[hw]|refine tT ?_|refine Cos.err (Cos.intro [0,1,2,3] [] rfl ?_)|refine And.intro ?_ ?_|exact tC|(refine tI ?_;intro hyp)|intro hyp0|omega)
abbrev ji8 (k:Int) (r:Int) (L:List CD) (x:Int) (y:Int) (hd:Bool) (mo:Int) (ti:ByteArray) (l:List ByteArray) (d:List Int) (a:Nat) (most:Int):List CV:=[.ptr 0 0 0,.int .i64 most]
abbrev ji9 (k:Int) (r:Int) (L:List CD) (x:Int) (y:Int) (hd:Bool) (mo:Int) (ti:ByteArray) (l:List ByteArray) (d:List Int) (a:Nat) (most:Int):KH:=[RBs 2 3 k r L.length x y hd mo ti l.length,rdr d a 0,.seq .cell L,.seq .str l]
abbrev jrw (k:Int) (r:Int) (L:List CD) (x:Int) (y:Int) (hd:Bool) (mo:Int) (ti:ByteArray) (l:List ByteArray) (d:List Int) (a:Nat) (most:Int):Prop×Res×KH:=(RdOk d a∧(-1000000000000≤most∧most≤1000000000000),.ret (.int .i64 (varV d a)),[RBs 2 3 k r L.length x y hd mo ti l.length,rdr d (a+varU d a) 0,.seq .cell L,.seq .str l])
noncomputable def jif:MSpec:=jcH (α:=Int×Int×(List CD)×Int×Int×Bool×Int×ByteArray×(List ByteArray)×(List Int)×Nat×Int) (fun⟨k,r,L,x,y,hd,mo,ti,l,d,a,most⟩=>(ji8 k r L x y hd mo ti l d a most,ji9 k r L x y hd mo ti l d a most)) fun⟨k,r,L,x,y,hd,mo,ti,l,d,a,most⟩=>jrw k r L x y hd mo ti l d a most
noncomputable def esp_uptoS:ESpec:=jgW (α:=Int×Int×(List CD)×Int×Int×Bool×Int×ByteArray×(List ByteArray)×(List Int)×Nat×Int) (fun⟨k,r,L,x,y,hd,mo,ti,l,d,a,most⟩=>(ji8 k r L x y hd mo ti l d a most,ji9 k r L x y hd mo ti l d a most)) fun⟨k,r,L,x,y,hd,mo,ti,l,d,a,most⟩=>upE d a most
theorem jlP:InjM (α:=Int×Int×(List CD)×Int×Int×Bool×Int×ByteArray×(List ByteArray)×(List Int)×Nat×Int) (fun⟨k,r,L,x,y,hd,mo,ti,l,d,a,most⟩=>(ji8 k r L x y hd mo ti l d a most,ji9 k r L x y hd mo ti l d a most)):=injM
theorem jba (k:Int) (r:Int) (L:List CD) (x:Int) (y:Int) (hd:Bool) (mo:Int) (ti:ByteArray) (l:List ByteArray) (d:List Int) (a:Nat) (most:Int):jif (ji8 k r L x y hd mo ti l d a most) (ji9 k r L x y hd mo ti l d a most)=some (jrw k r L x y hd mo ti l d a most):=jbn _ jlP (k,r,L,x,y,hd,mo,ti,l,d,a,most)
theorem jbb (k:Int) (r:Int) (L:List CD) (x:Int) (y:Int) (hd:Bool) (mo:Int) (ti:ByteArray) (l:List ByteArray) (d:List Int) (a:Nat) (most:Int):esp_uptoS (ji8 k r L x y hd mo ti l d a most) (ji9 k r L x y hd mo ti l d a most)=upE d a most:=jcJ _ jlP (k,r,L,x,y,hd,mo,ti,l,d,a,most)
theorem jsM:MutP Tryz.prog E0 62 jif esp_uptoS:=MutP.of jlP fun⟨k,r,L,x,y,hd,mo,ti,l,d,a,most⟩ hG=>TF.intro (V:=(VV [(60,conM msp_wvar),(61,conP jie esp_mustS)] (.cons (jaa jb4) (MutF.soundM jkT) (.cons (jaa jbr) (MutP.soundP jsL) GOk.nil)) 24 4)) jbs rfl rfl (by
 dsimp only[ji8,ji9,jrw]at hG ⊢
 obtain⟨⟨h1,h2,h3⟩,h4,h5⟩:=hG
 have hv:=jar h3 a
 rcases jpw d a most with⟨hE,hq,he⟩|⟨hE,hq,he⟩|⟨hE,he⟩
 ·rw[jcy he,jcz he]
  have hw:=And.intro hE (And.intro (jdY (n:=most) (by omega) (by omega)) (jf0 (n:=varV d a) (by omega)))
  repeat' first|exact h3 _ ‹_›|simp only[PB,SA,MB,seval,rdB,jaX,jbt,jbu,tq0,tq1,tq2]|simp only[hw]|refine tT ?_|refine Cos.intro [0,1,2,3] [] rfl ?_|refine And.intro ?_ ?_|exact tC|(refine tI ?_;intro hyp)|intro hyp0|omega
 ·rw[jbj (by omega),jbk (by omega),he]
  have hw:=hE
  repeat' first|exact h3 _ ‹_›|simp only[PB,SA,MB,seval,rdB,jaX,jbt,jbu,tq0,tq1,tq2]|simp only[hw]|refine tT ?_|refine Cos.err (Cos.intro [0,1,2,3] [] rfl ?_)|refine And.intro ?_ ?_|exact tC|(refine tI ?_;intro hyp)|intro hyp0|omega
  rw[jdY (by omega) (by omega)]at hyp
  omega
 ·rw[jbj (by omega),jbk (by omega),he]
  repeat' first|exact h3 _ ‹_›|simp only[PB,SA,MB,seval,rdB,jaX,jbt,jbu,tq0,tq1,tq2]|simp only[hw]|refine tT ?_|refine Cos.err (Cos.intro [0,1,2,3] [] rfl ?_)|refine And.intro ?_ ?_|exact tC|(refine tI ?_;intro hyp)|intro hyp0|omega)
abbrev jja (k:Int) (r:Int) (L:List CD) (x:Int) (y:Int) (hd:Bool) (mo:Int) (ti:ByteArray) (ll:Nat) (more:List ByteArray) (d:List Int) (a:Nat) (e:Int):List CV:=[.ptr 0 0 0]
abbrev jjb (k:Int) (r:Int) (L:List CD) (x:Int) (y:Int) (hd:Bool) (mo:Int) (ti:ByteArray) (ll:Nat) (more:List ByteArray) (d:List Int) (a:Nat) (e:Int):KH:=[RBd 2 3 4 k r L.length x y hd mo ti ll more.length,rdr d a e,.seq .cell L,.dead,.seq .str more]
abbrev jrx (k:Int) (r:Int) (L:List CD) (x:Int) (y:Int) (hd:Bool) (mo:Int) (ti:ByteArray) (ll:Nat) (more:List ByteArray) (d:List Int) (a:Nat) (e:Int):Prop×Res×KH:=(True,.ret (.tup []),[RBd 2 3 4 k r L.length x y hd mo ti ll more.length,rdr d a e,.seq .cell L,.dead,.seq .str more])
noncomputable def jig:MSpec:=jcH (α:=Int×Int×(List CD)×Int×Int×Bool×Int×ByteArray×Nat×(List ByteArray)×(List Int)×Nat×Int) (fun⟨k,r,L,x,y,hd,mo,ti,ll,more,d,a,e⟩=>(jja k r L x y hd mo ti ll more d a e,jjb k r L x y hd mo ti ll more d a e)) fun⟨k,r,L,x,y,hd,mo,ti,ll,more,d,a,e⟩=>jrx k r L x y hd mo ti ll more d a e
noncomputable def esp_mustD:ESpec:=jgW (α:=Int×Int×(List CD)×Int×Int×Bool×Int×ByteArray×Nat×(List ByteArray)×(List Int)×Nat×Int) (fun⟨k,r,L,x,y,hd,mo,ti,ll,more,d,a,e⟩=>(jja k r L x y hd mo ti ll more d a e,jjb k r L x y hd mo ti ll more d a e)) fun⟨k,r,L,x,y,hd,mo,ti,ll,more,d,a,e⟩=>e
theorem jlQ:InjM (α:=Int×Int×(List CD)×Int×Int×Bool×Int×ByteArray×Nat×(List ByteArray)×(List Int)×Nat×Int) (fun⟨k,r,L,x,y,hd,mo,ti,ll,more,d,a,e⟩=>(jja k r L x y hd mo ti ll more d a e,jjb k r L x y hd mo ti ll more d a e)):=injM
theorem jda (k:Int) (r:Int) (L:List CD) (x:Int) (y:Int) (hd:Bool) (mo:Int) (ti:ByteArray) (ll:Nat) (more:List ByteArray) (d:List Int) (a:Nat) (e:Int):jig (jja k r L x y hd mo ti ll more d a e) (jjb k r L x y hd mo ti ll more d a e)=some (jrx k r L x y hd mo ti ll more d a e):=jbn _ jlQ (k,r,L,x,y,hd,mo,ti,ll,more,d,a,e)
theorem jdb (k:Int) (r:Int) (L:List CD) (x:Int) (y:Int) (hd:Bool) (mo:Int) (ti:ByteArray) (ll:Nat) (more:List ByteArray) (d:List Int) (a:Nat) (e:Int):esp_mustD (jja k r L x y hd mo ti ll more d a e) (jjb k r L x y hd mo ti ll more d a e)=e:=jcJ _ jlQ (k,r,L,x,y,hd,mo,ti,ll,more,d,a,e)
theorem jsN:MutP Tryz.prog E0 61 jig esp_mustD:=MutP.of jlQ fun⟨k,r,L,x,y,hd,mo,ti,ll,more,d,a,e⟩ hG=>TF.intro (V:=(VV [(101,conM msp_werr)] (.cons (jaa jcS) (MutF.soundM jqi) GOk.nil) 12 5)) jbr rfl rfl (by
 dsimp only[jja,jjb,jrx]at hG ⊢
 by_cases he:e=0
 ·rw[jcy he,jcz he]
  have hw:=he
  repeat' first|simp only[PB,SA,MB,seval,rdB,jdw,tq0,tq1,tq2]|simp only[hw]|refine tT ?_|refine Cos.intro [0,1,2,3,4] [] rfl ?_|refine And.intro ?_ ?_|exact tC|(refine tI ?_;intro hyp)|intro hyp0|omega
 ·rw[jbj he,jbk he]
  have hw:=eq_false he
  repeat' first|simp only[PB,SA,MB,seval,rdB,jdw,tq0,tq1,tq2]|simp only[hw]|refine tT ?_|refine Cos.err (Cos.intro [0,1,2,3,4] [] rfl ?_)|refine And.intro ?_ ?_|exact tC|(refine tI ?_;intro hyp)|intro hyp0|omega)
abbrev jjc (k:Int) (r:Int) (L:List CD) (x:Int) (y:Int) (hd:Bool) (mo:Int) (ti:ByteArray) (ll:Nat) (more:List ByteArray) (d:List Int) (a:Nat) (most:Int):List CV:=[.ptr 0 0 0,.int .i64 most]
abbrev jjd (k:Int) (r:Int) (L:List CD) (x:Int) (y:Int) (hd:Bool) (mo:Int) (ti:ByteArray) (ll:Nat) (more:List ByteArray) (d:List Int) (a:Nat) (most:Int):KH:=[RBd 2 3 4 k r L.length x y hd mo ti ll more.length,rdr d a 0,.seq .cell L,.dead,.seq .str more]
abbrev jry (k:Int) (r:Int) (L:List CD) (x:Int) (y:Int) (hd:Bool) (mo:Int) (ti:ByteArray) (ll:Nat) (more:List ByteArray) (d:List Int) (a:Nat) (most:Int):Prop×Res×KH:=(RdOk d a∧(-1000000000000≤most∧most≤1000000000000),.ret (.int .i64 (varV d a)),[RBd 2 3 4 k r L.length x y hd mo ti ll more.length,rdr d (a+varU d a) 0,.seq .cell L,.dead,.seq .str more])
noncomputable def jfo:MSpec:=jcH (α:=Int×Int×(List CD)×Int×Int×Bool×Int×ByteArray×Nat×(List ByteArray)×(List Int)×Nat×Int) (fun⟨k,r,L,x,y,hd,mo,ti,ll,more,d,a,most⟩=>(jjc k r L x y hd mo ti ll more d a most,jjd k r L x y hd mo ti ll more d a most)) fun⟨k,r,L,x,y,hd,mo,ti,ll,more,d,a,most⟩=>jry k r L x y hd mo ti ll more d a most
noncomputable def esp_uptoD:ESpec:=jgW (α:=Int×Int×(List CD)×Int×Int×Bool×Int×ByteArray×Nat×(List ByteArray)×(List Int)×Nat×Int) (fun⟨k,r,L,x,y,hd,mo,ti,ll,more,d,a,most⟩=>(jjc k r L x y hd mo ti ll more d a most,jjd k r L x y hd mo ti ll more d a most)) fun⟨k,r,L,x,y,hd,mo,ti,ll,more,d,a,most⟩=>upE d a most
theorem jlR:InjM (α:=Int×Int×(List CD)×Int×Int×Bool×Int×ByteArray×Nat×(List ByteArray)×(List Int)×Nat×Int) (fun⟨k,r,L,x,y,hd,mo,ti,ll,more,d,a,most⟩=>(jjc k r L x y hd mo ti ll more d a most,jjd k r L x y hd mo ti ll more d a most)):=injM
theorem jam (k:Int) (r:Int) (L:List CD) (x:Int) (y:Int) (hd:Bool) (mo:Int) (ti:ByteArray) (ll:Nat) (more:List ByteArray) (d:List Int) (a:Nat) (most:Int):jfo (jjc k r L x y hd mo ti ll more d a most) (jjd k r L x y hd mo ti ll more d a most)=some (jry k r L x y hd mo ti ll more d a most):=jbn _ jlR (k,r,L,x,y,hd,mo,ti,ll,more,d,a,most)
theorem jan (k:Int) (r:Int) (L:List CD) (x:Int) (y:Int) (hd:Bool) (mo:Int) (ti:ByteArray) (ll:Nat) (more:List ByteArray) (d:List Int) (a:Nat) (most:Int):esp_uptoD (jjc k r L x y hd mo ti ll more d a most) (jjd k r L x y hd mo ti ll more d a most)=upE d a most:=jcJ _ jlR (k,r,L,x,y,hd,mo,ti,ll,more,d,a,most)
theorem jkf:MutP Tryz.prog E0 62 jfo esp_uptoD:=MutP.of jlR fun⟨k,r,L,x,y,hd,mo,ti,ll,more,d,a,most⟩ hG=>TF.intro (V:=(VV [(60,conM msp_wvar),(61,conP jig esp_mustD)] (.cons (jaa jb4) (MutF.soundM jkT) (.cons (jaa jbr) (MutP.soundP jsN) GOk.nil)) 24 5)) jbs rfl rfl (by
 dsimp only[jjc,jjd,jry]at hG ⊢
 obtain⟨⟨h1,h2,h3⟩,h4,h5⟩:=hG
 have hv:=jar h3 a
 rcases jpw d a most with⟨hE,hq,he⟩|⟨hE,hq,he⟩|⟨hE,he⟩
 ·rw[jcy he,jcz he]
  have hw:=And.intro hE (And.intro (jdY (n:=most) (by omega) (by omega)) (jf0 (n:=varV d a) (by omega)))
  repeat' first|exact h3 _ ‹_›|simp only[PB,SA,MB,seval,rdB,jaX,jda,jdb,tq0,tq1,tq2]|simp only[hw]|refine tT ?_|refine Cos.intro [0,1,2,3,4] [] rfl ?_|refine And.intro ?_ ?_|exact tC|(refine tI ?_;intro hyp)|intro hyp0|omega
 ·rw[jbj (by omega),jbk (by omega),he]
  have hw:=hE
  repeat' first|exact h3 _ ‹_›|simp only[PB,SA,MB,seval,rdB,jaX,jda,jdb,tq0,tq1,tq2]|simp only[hw]|refine tT ?_|refine Cos.err (Cos.intro [0,1,2,3,4] [] rfl ?_)|refine And.intro ?_ ?_|exact tC|(refine tI ?_;intro hyp)|intro hyp0|omega
  rw[jdY (by omega) (by omega)]at hyp
  omega
 ·rw[jbj (by omega),jbk (by omega),he]
  repeat' first|exact h3 _ ‹_›|simp only[PB,SA,MB,seval,rdB,jaX,jda,jdb,tq0,tq1,tq2]|simp only[hw]|refine tT ?_|refine Cos.err (Cos.intro [0,1,2,3,4] [] rfl ?_)|refine And.intro ?_ ?_|exact tC|(refine tI ?_;intro hyp)|intro hyp0|omega)
abbrev jje (k:Int) (r:Int) (L:List CD) (x:Int) (y:Int) (hd:Bool) (mo:Int) (ti:ByteArray) (ll:Nat) (more:List ByteArray) (d:List Int) (a:Nat):List CV:=[.ptr 0 0 0]
abbrev jjf (k:Int) (r:Int) (L:List CD) (x:Int) (y:Int) (hd:Bool) (mo:Int) (ti:ByteArray) (ll:Nat) (more:List ByteArray) (d:List Int) (a:Nat):KH:=[RBd 2 3 4 k r L.length x y hd mo ti ll more.length,rdr d a 0,.seq .cell L,.dead,.seq .str more]
abbrev jrz (k:Int) (r:Int) (L:List CD) (x:Int) (y:Int) (hd:Bool) (mo:Int) (ti:ByteArray) (ll:Nat) (more:List ByteArray) (d:List Int) (a:Nat):Prop×Res×KH:=(RdOk d a,.ret (.int .u64 (varV d a)),[RBd 2 3 4 k r L.length x y hd mo ti ll more.length,rdr d (a+varU d a) 0,.seq .cell L,.dead,.seq .str more])
noncomputable def jih:MSpec:=jcH (α:=Int×Int×(List CD)×Int×Int×Bool×Int×ByteArray×Nat×(List ByteArray)×(List Int)×Nat) (fun⟨k,r,L,x,y,hd,mo,ti,ll,more,d,a⟩=>(jje k r L x y hd mo ti ll more d a,jjf k r L x y hd mo ti ll more d a)) fun⟨k,r,L,x,y,hd,mo,ti,ll,more,d,a⟩=>jrz k r L x y hd mo ti ll more d a
noncomputable def esp_someD:ESpec:=jgW (α:=Int×Int×(List CD)×Int×Int×Bool×Int×ByteArray×Nat×(List ByteArray)×(List Int)×Nat) (fun⟨k,r,L,x,y,hd,mo,ti,ll,more,d,a⟩=>(jje k r L x y hd mo ti ll more d a,jjf k r L x y hd mo ti ll more d a)) fun⟨k,r,L,x,y,hd,mo,ti,ll,more,d,a⟩=>jdr d a
theorem jlS:InjM (α:=Int×Int×(List CD)×Int×Int×Bool×Int×ByteArray×Nat×(List ByteArray)×(List Int)×Nat) (fun⟨k,r,L,x,y,hd,mo,ti,ll,more,d,a⟩=>(jje k r L x y hd mo ti ll more d a,jjf k r L x y hd mo ti ll more d a)):=injM
theorem jaN (k:Int) (r:Int) (L:List CD) (x:Int) (y:Int) (hd:Bool) (mo:Int) (ti:ByteArray) (ll:Nat) (more:List ByteArray) (d:List Int) (a:Nat):jih (jje k r L x y hd mo ti ll more d a) (jjf k r L x y hd mo ti ll more d a)=some (jrz k r L x y hd mo ti ll more d a):=jbn _ jlS (k,r,L,x,y,hd,mo,ti,ll,more,d,a)
theorem jaO (k:Int) (r:Int) (L:List CD) (x:Int) (y:Int) (hd:Bool) (mo:Int) (ti:ByteArray) (ll:Nat) (more:List ByteArray) (d:List Int) (a:Nat):esp_someD (jje k r L x y hd mo ti ll more d a) (jjf k r L x y hd mo ti ll more d a)=jdr d a:=jcJ _ jlS (k,r,L,x,y,hd,mo,ti,ll,more,d,a)
theorem jsO:MutP Tryz.prog E0 104 jih esp_someD:=MutP.of jlS fun⟨k,r,L,x,y,hd,mo,ti,ll,more,d,a⟩ hG=>TF.intro (V:=(VV [(60,conM msp_wvar),(61,conP jig esp_mustD)] (.cons (jaa jb4) (MutF.soundM jkT) (.cons (jaa jbr) (MutP.soundP jsN) GOk.nil)) 15 5)) jcV rfl rfl (by
 dsimp only[jje,jjf,jrz]at hG ⊢
 obtain⟨h1,h2,h3⟩:=hG
 have hv:=jar h3 a
 rcases jqX d a with⟨hE,hq,he⟩|⟨hE,hq,he⟩|⟨hE,he⟩
 ·rw[jcy he,jcz he]
  have hw:=hE
  repeat' first|exact h3 _ ‹_›|simp only[PB,SA,MB,seval,rdB,jaX,jda,jdb,tq0,tq1,tq2]|simp only[hw]|refine tT ?_|refine Cos.intro [0,1,2,3,4] [] rfl ?_|refine And.intro ?_ ?_|exact tC|(refine tI ?_;intro hyp)|intro hyp0|omega
 ·rw[jbj (by omega),jbk (by omega),he]
  have hw:=hE
  repeat' first|exact h3 _ ‹_›|simp only[PB,SA,MB,seval,rdB,jaX,jda,jdb,tq0,tq1,tq2]|simp only[hw]|refine tT ?_|refine Cos.err (Cos.intro [0,1,2,3,4] [] rfl ?_)|refine And.intro ?_ ?_|exact tC|(refine tI ?_;intro hyp)|intro hyp0|omega
 ·rw[jbj (by omega),jbk (by omega),he]
  repeat' first|exact h3 _ ‹_›|simp only[PB,SA,MB,seval,rdB,jaX,jda,jdb,tq0,tq1,tq2]|simp only[hw]|refine tT ?_|refine Cos.err (Cos.intro [0,1,2,3,4] [] rfl ?_)|refine And.intro ?_ ?_|exact tC|(refine tI ?_;intro hyp)|intro hyp0|omega)
abbrev jgI (k:Int) (r:Int) (L:List CD) (x:Int) (y:Int) (hd:Bool) (mo:Int) (ti:ByteArray) (ll:Nat) (more:List ByteArray) (d:List Int) (a:Nat):List CV:=[.ptr 0 0 0]
abbrev jgJ (k:Int) (r:Int) (L:List CD) (x:Int) (y:Int) (hd:Bool) (mo:Int) (ti:ByteArray) (ll:Nat) (more:List ByteArray) (d:List Int) (a:Nat):KH:=[RBd 2 3 4 k r L.length x y hd mo ti ll more.length,rdr d a 0,.seq .cell L,.dead,.seq .str more]
abbrev jon (k:Int) (r:Int) (L:List CD) (x:Int) (y:Int) (hd:Bool) (mo:Int) (ti:ByteArray) (ll:Nat) (more:List ByteArray) (d:List Int) (a:Nat):Prop×Res×KH:=(RdOk d a,.ret (.int .u32 (varV d a)),[RBd 2 3 4 k r L.length x y hd mo ti ll more.length,rdr d (a+varU d a) 0,.seq .cell L,.dead,.seq .str more])
noncomputable def jjg:MSpec:=jcH (α:=Int×Int×(List CD)×Int×Int×Bool×Int×ByteArray×Nat×(List ByteArray)×(List Int)×Nat) (fun⟨k,r,L,x,y,hd,mo,ti,ll,more,d,a⟩=>(jgI k r L x y hd mo ti ll more d a,jgJ k r L x y hd mo ti ll more d a)) fun⟨k,r,L,x,y,hd,mo,ti,ll,more,d,a⟩=>jon k r L x y hd mo ti ll more d a
noncomputable def esp_rdcolD:ESpec:=jgW (α:=Int×Int×(List CD)×Int×Int×Bool×Int×ByteArray×Nat×(List ByteArray)×(List Int)×Nat) (fun⟨k,r,L,x,y,hd,mo,ti,ll,more,d,a⟩=>(jgI k r L x y hd mo ti ll more d a,jgJ k r L x y hd mo ti ll more d a)) fun⟨k,r,L,x,y,hd,mo,ti,ll,more,d,a⟩=>colE d a
theorem jjh:InjM (α:=Int×Int×(List CD)×Int×Int×Bool×Int×ByteArray×Nat×(List ByteArray)×(List Int)×Nat) (fun⟨k,r,L,x,y,hd,mo,ti,ll,more,d,a⟩=>(jgI k r L x y hd mo ti ll more d a,jgJ k r L x y hd mo ti ll more d a)):=injM
theorem ja7 (k:Int) (r:Int) (L:List CD) (x:Int) (y:Int) (hd:Bool) (mo:Int) (ti:ByteArray) (ll:Nat) (more:List ByteArray) (d:List Int) (a:Nat):jjg (jgI k r L x y hd mo ti ll more d a) (jgJ k r L x y hd mo ti ll more d a)=some (jon k r L x y hd mo ti ll more d a):=jbn _ jjh (k,r,L,x,y,hd,mo,ti,ll,more,d,a)
theorem ja8 (k:Int) (r:Int) (L:List CD) (x:Int) (y:Int) (hd:Bool) (mo:Int) (ti:ByteArray) (ll:Nat) (more:List ByteArray) (d:List Int) (a:Nat):esp_rdcolD (jgI k r L x y hd mo ti ll more d a) (jgJ k r L x y hd mo ti ll more d a)=colE d a:=jcJ _ jjh (k,r,L,x,y,hd,mo,ti,ll,more,d,a)
theorem jwM:MutP Tryz.prog E0 106 jjg esp_rdcolD:=MutP.of jjh fun⟨k,r,L,x,y,hd,mo,ti,ll,more,d,a⟩ hG=>TF.intro (V:=(VV [(62,conP jfo esp_uptoD),(127,conF [.any] sp_color)] (.cons (jaa jbs) (MutP.soundP jkf) (.cons (jaa jcO) (Fresh.soundF jnz) GOk.nil)) 12 5)) jdK rfl rfl (by
 dsimp only[jgI,jgJ,jon]at hG ⊢
 have hr:=hG
 obtain⟨h1,h2,h3⟩:=hG
 have hv:=jar h3 a
 rcases jfm d a with⟨hE,hq,he⟩|⟨hE,hq,he⟩|⟨hE,he⟩
 ·rw[jcy he,jcz he]
  have hu:=jbe hE
  have hw:=And.intro hE (And.intro hq (jix (n:=varV d a) (by omega)))
  repeat' first|exact hr|simp only[PB,SA,MB,seval,rdB,jam,jan,jes,tq0,tq1,tq2]|simp only[hw]|refine tT ?_|refine Cos.intro [0,1,2,3,4] [] rfl ?_|refine And.intro ?_ ?_|exact tC|(refine tI ?_;intro hyp)|intro hyp0|omega
 ·rw[jbj (by omega),jbk (by omega),he]
  have hu:=jbe hE
  have hw:=And.intro hE (And.intro hq (jix (n:=varV d a) (by omega)))
  repeat' first|exact hr|simp only[PB,SA,MB,seval,rdB,jam,jan,jes,tq0,tq1,tq2]|simp only[hw]|refine tT ?_|refine Cos.err (Cos.intro [0,1,2,3,4] [] rfl ?_)|refine And.intro ?_ ?_|exact tC|(refine tI ?_;intro hyp)|intro hyp0|omega
 ·rw[jbj (by omega),jbk (by omega),he]
  repeat' first|exact hr|simp only[PB,SA,MB,seval,rdB,jam,jan,jes,tq0,tq1,tq2]|simp only[hw]|refine tT ?_|refine Cos.err (Cos.intro [0,1,2,3,4] [] rfl ?_)|refine And.intro ?_ ?_|exact tC|(refine tI ?_;intro hyp)|intro hyp0|omega)
abbrev jji (k:Int) (r:Int) (L:List CD) (x:Int) (y:Int) (hd:Bool) (mo:Int) (ti:ByteArray) (l:List ByteArray) (m:List ByteArray) (d:List Int) (a:Nat) (e:Int):List CV:=[.ptr 0 0 0]
abbrev jjj (k:Int) (r:Int) (L:List CD) (x:Int) (y:Int) (hd:Bool) (mo:Int) (ti:ByteArray) (l:List ByteArray) (m:List ByteArray) (d:List Int) (a:Nat) (e:Int):KH:=[.box [.ptr 1 0 0,.int .i64 k,.int .i64 r,.slice 2 0 6 L.length L.length,.int .i64 x,.int .i64 y,.bool hd,.int .u8 mo,.str ti,.slice 3 0 1 l.length l.length,.slice 4 0 1 m.length m.length],rdr d a e,.seq .cell L,.seq .str l,.seq .str m]
abbrev jrA (k:Int) (r:Int) (L:List CD) (x:Int) (y:Int) (hd:Bool) (mo:Int) (ti:ByteArray) (l:List ByteArray) (m:List ByteArray) (d:List Int) (a:Nat) (e:Int):Prop×Res×KH:=(True,.ret (.tup []),[.box [.ptr 1 0 0,.int .i64 k,.int .i64 r,.slice 2 0 6 L.length L.length,.int .i64 x,.int .i64 y,.bool hd,.int .u8 mo,.str ti,.slice 3 0 1 l.length l.length,.slice 4 0 1 m.length m.length],rdr d a e,.seq .cell L,.seq .str l,.seq .str m])
noncomputable def jlT:MSpec:=jcH (α:=Int×Int×(List CD)×Int×Int×Bool×Int×ByteArray×(List ByteArray)×(List ByteArray)×(List Int)×Nat×Int) (fun⟨k,r,L,x,y,hd,mo,ti,l,m,d,a,e⟩=>(jji k r L x y hd mo ti l m d a e,jjj k r L x y hd mo ti l m d a e)) fun⟨k,r,L,x,y,hd,mo,ti,l,m,d,a,e⟩=>jrA k r L x y hd mo ti l m d a e
noncomputable def esp_mustM:ESpec:=jgW (α:=Int×Int×(List CD)×Int×Int×Bool×Int×ByteArray×(List ByteArray)×(List ByteArray)×(List Int)×Nat×Int) (fun⟨k,r,L,x,y,hd,mo,ti,l,m,d,a,e⟩=>(jji k r L x y hd mo ti l m d a e,jjj k r L x y hd mo ti l m d a e)) fun⟨k,r,L,x,y,hd,mo,ti,l,m,d,a,e⟩=>e
theorem jlU:InjM (α:=Int×Int×(List CD)×Int×Int×Bool×Int×ByteArray×(List ByteArray)×(List ByteArray)×(List Int)×Nat×Int) (fun⟨k,r,L,x,y,hd,mo,ti,l,m,d,a,e⟩=>(jji k r L x y hd mo ti l m d a e,jjj k r L x y hd mo ti l m d a e)):=injM
theorem jcd (k:Int) (r:Int) (L:List CD) (x:Int) (y:Int) (hd:Bool) (mo:Int) (ti:ByteArray) (l:List ByteArray) (m:List ByteArray) (d:List Int) (a:Nat) (e:Int):jlT (jji k r L x y hd mo ti l m d a e) (jjj k r L x y hd mo ti l m d a e)=some (jrA k r L x y hd mo ti l m d a e):=jbn _ jlU (k,r,L,x,y,hd,mo,ti,l,m,d,a,e)
theorem jce (k:Int) (r:Int) (L:List CD) (x:Int) (y:Int) (hd:Bool) (mo:Int) (ti:ByteArray) (l:List ByteArray) (m:List ByteArray) (d:List Int) (a:Nat) (e:Int):esp_mustM (jji k r L x y hd mo ti l m d a e) (jjj k r L x y hd mo ti l m d a e)=e:=jcJ _ jlU (k,r,L,x,y,hd,mo,ti,l,m,d,a,e)
theorem jyp:MutP Tryz.prog E0 61 jlT esp_mustM:=MutP.of jlU fun⟨k,r,L,x,y,hd,mo,ti,l,m,d,a,e⟩ hG=>TF.intro (V:=(VV [(101,conM msp_werr)] (.cons (jaa jcS) (MutF.soundM jqi) GOk.nil) 12 5)) jbr rfl rfl (by
 dsimp only[jji,jjj,jrA]at hG ⊢
 by_cases he:e=0
 ·rw[jcy he,jcz he]
  have hw:=he
  repeat' first|simp only[PB,SA,MB,seval,rdB,jdw,tq0,tq1,tq2]|simp only[hw]|refine tT ?_|refine Cos.intro [0,1,2,3,4] [] rfl ?_|refine And.intro ?_ ?_|exact tC|(refine tI ?_;intro hyp)|intro hyp0|omega
 ·rw[jbj he,jbk he]
  have hw:=eq_false he
  repeat' first|simp only[PB,SA,MB,seval,rdB,jdw,tq0,tq1,tq2]|simp only[hw]|refine tT ?_|refine Cos.err (Cos.intro [0,1,2,3,4] [] rfl ?_)|refine And.intro ?_ ?_|exact tC|(refine tI ?_;intro hyp)|intro hyp0|omega)
abbrev jfp (k:Int) (r:Int) (L:List CD) (x:Int) (y:Int) (hd:Bool) (mo:Int) (ti:ByteArray) (l:List ByteArray) (d:List Int) (a:Nat):List CV:=[.ptr 0 0 0]
abbrev jfq (k:Int) (r:Int) (L:List CD) (x:Int) (y:Int) (hd:Bool) (mo:Int) (ti:ByteArray) (l:List ByteArray) (d:List Int) (a:Nat):KH:=[RBs 2 3 k r L.length x y hd mo ti l.length,rdr d a 0,.seq .cell L,.seq .str l]
abbrev jlV (k:Int) (r:Int) (L:List CD) (x:Int) (y:Int) (hd:Bool) (mo:Int) (ti:ByteArray) (l:List ByteArray) (d:List Int) (a:Nat):Prop×Res×KH:=(RdOk d a∧(L.length≤60000∧l.length≤16)∧(∀c∈L,CWf c)∧(∀c∈L,c.link≤l.length),.ret (.tup []),[RBd 5 3 4 k r L.length x y hd mo ti l.length (lkG d a l).2.2.length,rdr d (lkG d a l).2.1 0,.dead,.dead,.seq .str (lkG d a l).2.2,.seq .cell (L.map (ulf l (lkG d a l).2.2))])
noncomputable def jhA:MSpec:=jcH (α:=Int×Int×(List CD)×Int×Int×Bool×Int×ByteArray×(List ByteArray)×(List Int)×Nat) (fun⟨k,r,L,x,y,hd,mo,ti,l,d,a⟩=>(jfp k r L x y hd mo ti l d a,jfq k r L x y hd mo ti l d a)) fun⟨k,r,L,x,y,hd,mo,ti,l,d,a⟩=>jlV k r L x y hd mo ti l d a
noncomputable def esp_rlinks5:ESpec:=jgW (α:=Int×Int×(List CD)×Int×Int×Bool×Int×ByteArray×(List ByteArray)×(List Int)×Nat) (fun⟨k,r,L,x,y,hd,mo,ti,l,d,a⟩=>(jfp k r L x y hd mo ti l d a,jfq k r L x y hd mo ti l d a)) fun⟨k,r,L,x,y,hd,mo,ti,l,d,a⟩=>(lkG d a l).1
theorem jhB:InjM (α:=Int×Int×(List CD)×Int×Int×Bool×Int×ByteArray×(List ByteArray)×(List Int)×Nat) (fun⟨k,r,L,x,y,hd,mo,ti,l,d,a⟩=>(jfp k r L x y hd mo ti l d a,jfq k r L x y hd mo ti l d a)):=injM
theorem jg7 (k:Int) (r:Int) (L:List CD) (x:Int) (y:Int) (hd:Bool) (mo:Int) (ti:ByteArray) (l:List ByteArray) (d:List Int) (a:Nat):jhA (jfp k r L x y hd mo ti l d a) (jfq k r L x y hd mo ti l d a)=some (jlV k r L x y hd mo ti l d a):=jbn _ jhB (k,r,L,x,y,hd,mo,ti,l,d,a)
theorem jg8 (k:Int) (r:Int) (L:List CD) (x:Int) (y:Int) (hd:Bool) (mo:Int) (ti:ByteArray) (l:List ByteArray) (d:List Int) (a:Nat):esp_rlinks5 (jfp k r L x y hd mo ti l d a) (jfq k r L x y hd mo ti l d a)=(lkG d a l).1:=jcJ _ jhB (k,r,L,x,y,hd,mo,ti,l,d,a)
theorem jtH:MutP Tryz.prog E0 64 jhA esp_rlinks5:=MutP.of jhB fun⟨k,r,L,x,y,hd,mo,ti,l,d,a⟩ hG=>TF.intro (V:=(VV [(62,conP jif esp_uptoS),(25,conT [.sl .str] sp_sclone),(63,conM msp_wtext),(61,conP jlT esp_mustM),(99,conF [.any] sp_lmay),(85,conT [.agg [.any,.any,.sl .cell,.any,.any,.any,.any,.any,.sl .str],.sl .str] sp_under)] (.cons (jaa jbs) (MutP.soundP jsM) (.cons (jaa jcQ) (Fresh.soundT jpF) (.cons (jaa jdj) (MutF.soundM jsm) (.cons (jaa jbr) (MutP.soundP jyp) (.cons (jaa jex) (Fresh.soundF jq9) (.cons (jaa jfQ) (Fresh.soundT jyj) GOk.nil)))))) 68 4)) jdJ rfl rfl (by
 dsimp only[jfp,jfq,jlV]at hG ⊢
 obtain⟨hr,⟨hL,hl⟩,hwf,hlk⟩:=hG
 have hr0:=hr
 obtain⟨h1,h2,h3⟩:=hr
 have hv:=jar h3 a
 have hr1:RdOk d (a+varU d a):=⟨jbS h1,h2,h3⟩
 have hv2:=jar h3 (a+varU d a)
 have hr2:RdOk d (a+varU d a+varU d (a+varU d a)):=⟨jbS (jbS h1),h2,h3⟩
 by_cases e1:upE d a l.length=0
 ·have u1:=jbe e1
  by_cases e2:upE d (a+varU d a) (16-varV d a)=0
  ·have u2:=jbe e2
   have hW:lkG d a l=lnkG d (varV d (a+varU d a)).toNat (a+varU d a+varU d (a+varU d a)) (l.take (varV d a).toNat):=by rw[lkG,if_neg (by simp[e1]),if_neg (by simp[e2])]
   rw[hW]
   generalize hWg:lnkG d (varV d (a+varU d a)).toNat (a+varU d a+varU d (a+varU d a)) (l.take (varV d a).toNat)=W
   have hw:=And.intro e1 e2
   have htk:(l.take (varV d a).toNat).length=(varV d a).toNat:=by rw[List.length_take];omega
   have htk2:(l.take (varV d a).toNat).length≤1000000:=by omega
   have hcap:(l.take (varV d a).toNat).length+(varV d (a+varU d a)).toNat≤16:=by omega
   repeat' first|exact hr0|exact hr1|exact htk2|simp only[PB,SA,MB,seval,rdB,jba,jbb,jat,ja9,jcd,jce,jbg,jcA,tq0,tq1,tq2]|simp only[hw]|simp only[hw2]|refine tT ?_|refine And.intro ?_ ?_|exact tC|(refine tI ?_;intro hyp)|intro hyp0|omega
   refine T.loop (fun q:Nat×Nat×List ByteArray=>⟨[(0,.ptr 0 0 0),(28,.int .i64 (varV d (a+varU d a))),(29,.int .i64 q.1)],[.box [.ptr 1 0 0,.int .i64 k,.int .i64 r,.slice 2 0 6 L.length L.length,.int .i64 x,.int .i64 y,.bool hd,.int .u8 mo,.str ti,.slice 3 0 1 l.length l.length,.slice 4 0 1 q.2.2.length q.2.2.length],rdr d q.2.1 0,.seq .cell L,.seq .str l,.seq .str q.2.2]⟩) (fun q=>q.1≤(varV d (a+varU d a)).toNat∧RdOk d q.2.1∧q.2.2.length+((varV d (a+varU d a)).toNat-q.1)≤16∧lnkG d ((varV d (a+varU d a)).toNat-q.1) q.2.1 q.2.2=W) (fun q=>(varV d (a+varU d a)).toNat-q.1) (0,a+varU d a+varU d (a+varU d a),l.take (varV d a).toNat) ⟨by omega,hr2,by omega,hWg⟩ (Cos.intro [0,1,2,3,4] [] rfl (by (simp only[PB,SA,MB,seval,rdB,jba,jbb,jat,ja9,jcd,jce,jbg,jcA,tq0,tq1,tq2]<;>exact tE))) (fun⟨i,a',m⟩ ⟨hi,hr',hm,hg⟩=>?_)
   dsimp only at hi hm hg hr'
   obtain⟨g1,g2,g3⟩:=hr'
   by_cases hin:i<(varV d (a+varU d a)).toNat
   ·obtain⟨n',hn'⟩:∃n',(varV d (a+varU d a)).toNat-i=n'+1:=⟨(varV d (a+varU d a)).toNat-i-1,by omega⟩
    rw[hn']at hg
    simp only[lnkG]at hg
    have hsl:SLen (jbl (jcM d a' 64)):=by
     have:=jib d a' 64
     simp only[SLen,jc8]
     omega
    by_cases t1:jcB d a' 64=0
    ·rw[if_neg (by simp[t1])]at hg
     cases t2:jdn (jbl (jcM d a' 64))
     ·rw[if_pos t2]at hg
      subst hg
      rw[jbj (by decide),jbk (by decide)]
      have hw2:=And.intro t1 t2
      repeat' first|exact g3 _ ‹_›|exact hsl|simp only[PB,SA,MB,seval,rdB,jba,jbb,jat,ja9,jcd,jce,jbg,jcA,tq0,tq1,tq2]|simp only[hw]|simp only[hw2]|refine tT ?_|refine Cos.err (Cos.intro [0,1,2,3] [] rfl ?_)|refine And.intro ?_ ?_|exact tC|(refine tI ?_;intro hyp)|intro hyp0|omega
     ·rw[if_neg (by simp[t2])]at hg
      have hw2:=And.intro t1 t2
      have hml:m.length≤1073741823:=by omega
      repeat' first|exact g3 _ ‹_›|exact hsl|exact hml|simp only[PB,SA,MB,seval,rdB,jba,jbb,jat,ja9,jcd,jce,jbg,jcA,tq0,tq1,tq2]|simp only[hw]|simp only[hw2]|refine tT ?_|refine And.intro ?_ ?_|exact tC|(refine tI ?_;intro hyp)|intro hyp0|omega
      exact⟨(i+1,a'+jcU d a' 64,m++[jbl (jcM d a' 64)]),⟨by omega,⟨joh g1,g2,g3⟩,by simp only[List.length_append,List.length_cons,List.length_nil];omega,(show (varV d (a+varU d a)).toNat-(i+1)=n' by omega)▸hg⟩,by simp only;omega,Cos.intro [0,1,2,3,6] [] rfl (by (simp only[PB,SA,MB,seval,rdB,jba,jbb,jat,ja9,jcd,jce,jbg,jcA,tq0,tq1,tq2]<;>exact tE))⟩
    ·rw[if_pos t1]at hg
     subst hg
     rw[jbj t1,jbk t1]
     have hw2:=eq_false t1
     repeat' first|exact g3 _ ‹_›|simp only[PB,SA,MB,seval,rdB,jba,jbb,jat,ja9,jcd,jce,jbg,jcA,tq0,tq1,tq2]|simp only[hw]|simp only[hw2]|refine tT ?_|refine Cos.err (Cos.intro [0,1,2,3] [] rfl ?_)|refine And.intro ?_ ?_|exact tC|(refine tI ?_;intro hyp)|intro hyp0|omega
   ·rw[show (varV d (a+varU d a)).toNat-i=0 by omega]at hg
    simp only[lnkG]at hg
    subst hg
    rw[jcy rfl,jcz rfl]
    have hlm:(L.map (ulf l m)).length=L.length:=by simp
    have hm6:m.length≤60000:=by omega
    have hw2:=hlm
    repeat' first|exact hwf|exact hlk|exact hm6|exact hlm|simp only[PB,SA,MB,seval,rdB,jba,jbb,jat,ja9,jcd,jce,jbg,jcA,tq0,tq1,tq2]|simp only[hw]|simp only[hw2]|refine tT ?_|refine Cos.intro [0,1,2,3,4,5] [] rfl ?_|refine And.intro ?_ ?_|exact tC|(refine tI ?_;intro hyp)|intro hyp0|omega
  ·have hW:lkG d a l=(upE d (a+varU d a) (16-varV d a),0,[]):=by rw[lkG,if_neg (by simp[e1]),if_pos e2]
   rw[hW,jbj e2,jbk e2]
   have hw:=And.intro e1 (eq_false e2)
   repeat' first|exact hr0|exact hr1|simp only[PB,SA,MB,seval,rdB,jba,jbb,jat,ja9,jcd,jce,jbg,jcA,tq0,tq1,tq2]|simp only[hw]|simp only[hw2]|refine tT ?_|refine Cos.err (Cos.intro [0,1,2,3] [] rfl ?_)|refine And.intro ?_ ?_|exact tC|(refine tI ?_;intro hyp)|intro hyp0|omega
 ·have hW:lkG d a l=(upE d a l.length,0,[]):=by rw[lkG,if_pos e1]
  rw[hW,jbj e1,jbk e1]
  have hw:=eq_false e1
  repeat' first|exact hr0|simp only[PB,SA,MB,seval,rdB,jba,jbb,jat,ja9,jcd,jce,jbg,jcA,tq0,tq1,tq2]|simp only[hw]|simp only[hw2]|refine tT ?_|refine Cos.err (Cos.intro [0,1,2,3] [] rfl ?_)|refine And.intro ?_ ?_|exact tC|(refine tI ?_;intro hyp)|intro hyp0|omega)
end
end Go.Proofs.YtcfkfgkndncanaaGreatDoor
