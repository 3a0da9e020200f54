/- Texts of this claim, merged by a program of this claim: FApply. -/
import Derived.Test.YtcfkfgkndncanaaGreatDoorMt11
import Derived.Test.YtcfkfgkndncanaaGreatDoorMt12
import Derived.Test.YtcfkfgkndncanaaGreatDoorMt17
import Derived.Test.YtcfkfgkndncanaaGreatDoorMt21
namespace Go.Proofs.YtcfkfgkndncanaaGreatDoor
set_option linter.unusedVariables false
set_option linter.unusedSimpArgs false
section
open Go.RowKit
set_option maxRecDepth 100000
set_option maxHeartbeats 4000000
abbrev RB (b:Nat) (k r:Int) (n:Nat) (x y:Int) (hd:Bool) (mo:Int) (ti:ByteArray) (l more:List ByteArray):KB:=.box [.ptr 1 0 0,.int .i64 k,.int .i64 r,.slice b 0 6 n n,.int .i64 x,.int .i64 y,.bool hd,.int .u8 mo,.str ti,.vec .str l,.vec .str more]
def RdOk (d:List Int) (a:Nat):Prop:=a≤d.length∧d.length≤1000000∧Bts d
noncomputable def jhr:MSpec:=jcD (α:=Int × Int × (List CD) × Int × Int × Bool × Int × ByteArray × (List ByteArray) × (List ByteArray) × (List Int) × Nat × Int) (fun ⟨k,r,L,x,y,hd,mo,ti,l,more,d,a,e⟩=>([.ptr 0 0 0],[RB 2 k r L.length x y hd mo ti l more,rdr d a e,.seq .cell L])) fun ⟨k,r,L,x,y,hd,mo,ti,l,more,d,a,e⟩=>(True,.ret (.tup []),[RB 2 k r L.length x y hd mo ti l more,rdr d a e,.seq .cell L])
theorem jlO:∀ (x y:Int × Int × (List CD) × Int × Int × Bool × Int × ByteArray × (List ByteArray) × (List ByteArray) × (List Int) × Nat × Int),(fun (⟨k,r,L,x,y,hd,mo,ti,l,more,d,a,e⟩:Int × Int × (List CD) × Int × Int × Bool × Int × ByteArray × (List ByteArray) × (List ByteArray) × (List Int) × Nat × Int)=>(([.ptr 0 0 0],[RB 2 k r L.length x y hd mo ti l more,rdr d a e,.seq .cell L]):List CV × KH)) x=(fun (⟨k,r,L,x,y,hd,mo,ti,l,more,d,a,e⟩:Int × Int × (List CD) × Int × Int × Bool × Int × ByteArray × (List ByteArray) × (List ByteArray) × (List Int) × Nat × Int)=>(([.ptr 0 0 0],[RB 2 k r L.length x y hd mo ti l more,rdr d a e,.seq .cell L]):List CV × KH)) y→x=y:=fun ⟨k,r,L,x,y,hd,mo,ti,l,more,d,a,e⟩ ⟨k',r',L',x',y',hd',mo',ti',l',more',d',a',e'⟩ h=>by first | rfl | simpa [CP,jaP] using h | (simp [CP,jaP] at h ⊢; grind)
theorem jaC (k:Int) (r:Int) (L:List CD) (x:Int) (y:Int) (hd:Bool) (mo:Int) (ti:ByteArray) (l:List ByteArray) (more:List ByteArray) (d:List Int) (a:Nat) (e:Int):jhr [.ptr 0 0 0] [RB 2 k r L.length x y hd mo ti l more,rdr d a e,.seq .cell L]=some (True,.ret (.tup []),[RB 2 k r L.length x y hd mo ti l more,rdr d a e,.seq .cell L]):=jbd (α:=Int × Int × (List CD) × Int × Int × Bool × Int × ByteArray × (List ByteArray) × (List ByteArray) × (List Int) × Nat × Int) _ jlO (k,r,L,x,y,hd,mo,ti,l,more,d,a,e)
noncomputable def esp_must:ESpec:=jix (α:=Int × Int × (List CD) × Int × Int × Bool × Int × ByteArray × (List ByteArray) × (List ByteArray) × (List Int) × Nat × Int) (fun ⟨k,r,L,x,y,hd,mo,ti,l,more,d,a,e⟩=>([.ptr 0 0 0],[RB 2 k r L.length x y hd mo ti l more,rdr d a e,.seq .cell L])) fun ⟨k,r,L,x,y,hd,mo,ti,l,more,d,a,e⟩=>e
theorem jaD (k:Int) (r:Int) (L:List CD) (x:Int) (y:Int) (hd:Bool) (mo:Int) (ti:ByteArray) (l:List ByteArray) (more:List ByteArray) (d:List Int) (a:Nat) (e:Int):esp_must [.ptr 0 0 0] [RB 2 k r L.length x y hd mo ti l more,rdr d a e,.seq .cell L]=e:=jdi (α:=Int × Int × (List CD) × Int × Int × Bool × Int × ByteArray × (List ByteArray) × (List ByteArray) × (List Int) × Nat × Int) _ jlO (k,r,L,x,y,hd,mo,ti,l,more,d,a,e)
theorem jnA:MutP Tryz.prog E0 61 jhr esp_must:=MutP.of jlO fun ⟨k,r,L,x,y,hd,mo,ti,l,more,d,a,e⟩ hG=>TF.intro (V:=(VV [(101,conM msp_werr)] (.cons (jaa jdb) (MutF.soundM jrn) GOk.nil) 12 3)) jbo rfl rfl (by
 dsimp only at hG ⊢
 by_cases he:e=0
 ·rw [jci he,jcj he]
  have hw:=he
  repeat' first | simp only [PB,SB,E,MB,seval,rdB,ne_eq,implies_true,jfd] | simp only [hw] | refine T.seq ?_ | refine T.stm ?_ | refine T.rg ?_ | refine jac ?_ | refine jad ?_ | refine jae ?_ | refine T.cond ?_ | refine T.skip ?_ | refine T.ret ?_ | refine T.exit ?_ | refine T.block ?_ | refine Cos.intro [0,1,2] [] rfl ?_ | refine And.intro ?_ ?_ | (intro p0; have hyp:=p0; (try simp only [HB,ne_eq,reduceCtorEq] at hyp); (try simp only [p0]); (try clear p0); try (exfalso; omega; done)) | omega
 ·rw [ja1 he,ja2 he]
  have hw:=eq_false he
  repeat' first | simp only [PB,SB,E,MB,seval,rdB,ne_eq,implies_true,jfd] | simp only [hw] | refine T.seq ?_ | refine T.stm ?_ | refine T.rg ?_ | refine jac ?_ | refine jad ?_ | refine jae ?_ | refine T.cond ?_ | refine T.skip ?_ | refine T.ret ?_ | refine T.exit ?_ | refine T.block ?_ | refine Cos.err (Cos.intro [0,1,2] [] rfl ?_) | refine And.intro ?_ ?_ | (intro p0; have hyp:=p0; (try simp only [HB,ne_eq,reduceCtorEq] at hyp); (try simp only [p0]); (try clear p0); try (exfalso; omega; done)) | omega)
theorem jrS (d:List Int) (a:Nat) (most:Int):(varE d a=0∧(¬most < 0∧varV d a≤most)∧upE d a most=0)∨(varE d a=0∧(most < 0∨most < varV d a)∧upE d a most=3)∨(¬varE d a=0∧upE d a most=varE d a):=by
 unfold upE
 by_cases h:varE d a=0
 ·by_cases q:most < 0∨most < varV d a
  ·exact .inr (.inl ⟨h,q,by rw [if_neg (by simp [h]),if_pos q]⟩)
  ·exact .inl ⟨h,by omega,by rw [if_neg (by simp [h]),if_neg q]⟩
 ·exact .inr (.inr ⟨h,if_pos h⟩)
noncomputable def jfo:MSpec:=jcD (α:=Int × Int × (List CD) × Int × Int × Bool × Int × ByteArray × (List ByteArray) × (List ByteArray) × (List Int) × Nat × Int) (fun ⟨k,r,L,x,y,hd,mo,ti,l,more,d,a,most⟩=>([.ptr 0 0 0,.int .i64 most],[RB 2 k r L.length x y hd mo ti l more,rdr d a 0,.seq .cell L])) fun ⟨k,r,L,x,y,hd,mo,ti,l,more,d,a,most⟩=>(RdOk d a∧(-1000000000000≤most∧most≤1000000000000),.ret (.int .i64 (varV d a)),[RB 2 k r L.length x y hd mo ti l more,rdr d (a+varU d a) 0,.seq .cell L])
theorem jlP:∀ (x y:Int × Int × (List CD) × Int × Int × Bool × Int × ByteArray × (List ByteArray) × (List ByteArray) × (List Int) × Nat × Int),(fun (⟨k,r,L,x,y,hd,mo,ti,l,more,d,a,most⟩:Int × Int × (List CD) × Int × Int × Bool × Int × ByteArray × (List ByteArray) × (List ByteArray) × (List Int) × Nat × Int)=>(([.ptr 0 0 0,.int .i64 most],[RB 2 k r L.length x y hd mo ti l more,rdr d a 0,.seq .cell L]):List CV × KH)) x=(fun (⟨k,r,L,x,y,hd,mo,ti,l,more,d,a,most⟩:Int × Int × (List CD) × Int × Int × Bool × Int × ByteArray × (List ByteArray) × (List ByteArray) × (List Int) × Nat × Int)=>(([.ptr 0 0 0,.int .i64 most],[RB 2 k r L.length x y hd mo ti l more,rdr d a 0,.seq .cell L]):List CV × KH)) y→x=y:=fun ⟨k,r,L,x,y,hd,mo,ti,l,more,d,a,most⟩ ⟨k',r',L',x',y',hd',mo',ti',l',more',d',a',most'⟩ h=>by first | rfl | simpa [CP,jaP] using h | (simp [CP,jaP] at h ⊢; grind)
theorem jaf (k:Int) (r:Int) (L:List CD) (x:Int) (y:Int) (hd:Bool) (mo:Int) (ti:ByteArray) (l:List ByteArray) (more:List ByteArray) (d:List Int) (a:Nat) (most:Int):jfo [.ptr 0 0 0,.int .i64 most] [RB 2 k r L.length x y hd mo ti l more,rdr d a 0,.seq .cell L]=some (RdOk d a∧(-1000000000000≤most∧most≤1000000000000),.ret (.int .i64 (varV d a)),[RB 2 k r L.length x y hd mo ti l more,rdr d (a+varU d a) 0,.seq .cell L]):=jbd (α:=Int × Int × (List CD) × Int × Int × Bool × Int × ByteArray × (List ByteArray) × (List ByteArray) × (List Int) × Nat × Int) _ jlP (k,r,L,x,y,hd,mo,ti,l,more,d,a,most)
noncomputable def esp_upto:ESpec:=jix (α:=Int × Int × (List CD) × Int × Int × Bool × Int × ByteArray × (List ByteArray) × (List ByteArray) × (List Int) × Nat × Int) (fun ⟨k,r,L,x,y,hd,mo,ti,l,more,d,a,most⟩=>([.ptr 0 0 0,.int .i64 most],[RB 2 k r L.length x y hd mo ti l more,rdr d a 0,.seq .cell L])) fun ⟨k,r,L,x,y,hd,mo,ti,l,more,d,a,most⟩=>upE d a most
theorem jag (k:Int) (r:Int) (L:List CD) (x:Int) (y:Int) (hd:Bool) (mo:Int) (ti:ByteArray) (l:List ByteArray) (more:List ByteArray) (d:List Int) (a:Nat) (most:Int):esp_upto [.ptr 0 0 0,.int .i64 most] [RB 2 k r L.length x y hd mo ti l more,rdr d a 0,.seq .cell L]=upE d a most:=jdi (α:=Int × Int × (List CD) × Int × Int × Bool × Int × ByteArray × (List ByteArray) × (List ByteArray) × (List Int) × Nat × Int) _ jlP (k,r,L,x,y,hd,mo,ti,l,more,d,a,most)
theorem jjF:MutP Tryz.prog E0 62 jfo esp_upto:=MutP.of jlP fun ⟨k,r,L,x,y,hd,mo,ti,l,more,d,a,most⟩ hG=>TF.intro (V:=(VV [(60,conM msp_wvar),(61,conP jhr esp_must)] (.cons (jaa jbV) (MutF.soundM jlC) (.cons (jaa jbo) (MutP.soundP jnA) GOk.nil)) 24 3)) jbp rfl rfl (by
 dsimp only at hG ⊢
 obtain ⟨⟨h1,h2,h3⟩,h4,h5⟩:=hG
 have hv:=jaR h3 a
 rcases jrS d a most with ⟨hE,hq,he⟩ | ⟨hE,hq,he⟩ | ⟨hE,he⟩
 ·rw [jci he,jcj he]
  have hw:=And.intro hE (And.intro (jhS (n:=most) (by omega) (by omega)) (jng (n:=varV d a) (by omega)))
  repeat' first | exact h3 _ ‹_› | simp only [PB,SB,E,MB,seval,rdB,ne_eq,implies_true,jap,jaC,jaD] | simp only [hw] | refine T.seq ?_ | refine T.stm ?_ | refine T.rg ?_ | refine jac ?_ | refine jad ?_ | refine jae ?_ | refine T.cond ?_ | refine T.skip ?_ | refine T.ret ?_ | refine T.exit ?_ | refine T.block ?_ | refine Cos.intro [0,1,2] [] rfl ?_ | refine And.intro ?_ ?_ | (intro p0; have hyp:=p0; (try simp only [HB,ne_eq,reduceCtorEq] at hyp); (try simp only [p0]); (try clear p0); try (exfalso; omega; done)) | omega
 ·rw [ja1 (by omega),ja2 (by omega),he]
  have hw:=hE
  repeat' first | exact h3 _ ‹_› | simp only [PB,SB,E,MB,seval,rdB,ne_eq,implies_true,jap,jaC,jaD] | simp only [hw] | refine T.seq ?_ | refine T.stm ?_ | refine T.rg ?_ | refine jac ?_ | refine jad ?_ | refine jae ?_ | refine T.cond ?_ | refine T.skip ?_ | refine T.ret ?_ | refine T.exit ?_ | refine T.block ?_ | refine Cos.err (Cos.intro [0,1,2] [] rfl ?_) | refine And.intro ?_ ?_ | (intro p0; have hyp:=p0; (try simp only [HB,ne_eq,reduceCtorEq] at hyp); (try simp only [p0]); (try clear p0); try (exfalso; omega; done)) | omega
  rw [jhS (by omega) (by omega)] at hyp
  omega
 ·rw [ja1 (by omega),ja2 (by omega),he]
  repeat' first | exact h3 _ ‹_› | simp only [PB,SB,E,MB,seval,rdB,ne_eq,implies_true,jap,jaC,jaD] | simp only [hw] | refine T.seq ?_ | refine T.stm ?_ | refine T.rg ?_ | refine jac ?_ | refine jad ?_ | refine jae ?_ | refine T.cond ?_ | refine T.skip ?_ | refine T.ret ?_ | refine T.exit ?_ | refine T.block ?_ | refine Cos.err (Cos.intro [0,1,2] [] rfl ?_) | refine And.intro ?_ ?_ | (intro p0; have hyp:=p0; (try simp only [HB,ne_eq,reduceCtorEq] at hyp); (try simp only [p0]); (try clear p0); try (exfalso; omega; done)) | omega)
theorem jnB (d:List Int) (a:Nat):(varE d a=0∧¬varV d a=0∧jfE d a=0)∨(varE d a=0∧varV d a=0∧jfE d a=3)∨(¬varE d a=0∧jfE d a=varE d a):=by
 unfold jfE
 by_cases h:varE d a=0
 ·by_cases q:varV d a=0
  ·exact .inr (.inl ⟨h,q,by rw [if_neg (by simp [h]),if_pos q]⟩)
  ·exact .inl ⟨h,q,by rw [if_neg (by simp [h]),if_neg q]⟩
 ·exact .inr (.inr ⟨h,if_pos h⟩)
noncomputable def jiM:MSpec:=jcD (α:=Int × Int × (List CD) × Int × Int × Bool × Int × ByteArray × (List ByteArray) × (List ByteArray) × (List Int) × Nat) (fun ⟨k,r,L,x,y,hd,mo,ti,l,more,d,a⟩=>([.ptr 0 0 0],[RB 2 k r L.length x y hd mo ti l more,rdr d a 0,.seq .cell L])) fun ⟨k,r,L,x,y,hd,mo,ti,l,more,d,a⟩=>(RdOk d a,.ret (.int .u64 (varV d a)),[RB 2 k r L.length x y hd mo ti l more,rdr d (a+varU d a) 0,.seq .cell L])
theorem jlQ:∀ (x y:Int × Int × (List CD) × Int × Int × Bool × Int × ByteArray × (List ByteArray) × (List ByteArray) × (List Int) × Nat),(fun (⟨k,r,L,x,y,hd,mo,ti,l,more,d,a⟩:Int × Int × (List CD) × Int × Int × Bool × Int × ByteArray × (List ByteArray) × (List ByteArray) × (List Int) × Nat)=>(([.ptr 0 0 0],[RB 2 k r L.length x y hd mo ti l more,rdr d a 0,.seq .cell L]):List CV × KH)) x=(fun (⟨k,r,L,x,y,hd,mo,ti,l,more,d,a⟩:Int × Int × (List CD) × Int × Int × Bool × Int × ByteArray × (List ByteArray) × (List ByteArray) × (List Int) × Nat)=>(([.ptr 0 0 0],[RB 2 k r L.length x y hd mo ti l more,rdr d a 0,.seq .cell L]):List CV × KH)) y→x=y:=fun ⟨k,r,L,x,y,hd,mo,ti,l,more,d,a⟩ ⟨k',r',L',x',y',hd',mo',ti',l',more',d',a'⟩ h=>by first | rfl | simpa [CP,jaP] using h | (simp [CP,jaP] at h ⊢; grind)
theorem jaI (k:Int) (r:Int) (L:List CD) (x:Int) (y:Int) (hd:Bool) (mo:Int) (ti:ByteArray) (l:List ByteArray) (more:List ByteArray) (d:List Int) (a:Nat):jiM [.ptr 0 0 0] [RB 2 k r L.length x y hd mo ti l more,rdr d a 0,.seq .cell L]=some (RdOk d a,.ret (.int .u64 (varV d a)),[RB 2 k r L.length x y hd mo ti l more,rdr d (a+varU d a) 0,.seq .cell L]):=jbd (α:=Int × Int × (List CD) × Int × Int × Bool × Int × ByteArray × (List ByteArray) × (List ByteArray) × (List Int) × Nat) _ jlQ (k,r,L,x,y,hd,mo,ti,l,more,d,a)
noncomputable def esp_some:ESpec:=jix (α:=Int × Int × (List CD) × Int × Int × Bool × Int × ByteArray × (List ByteArray) × (List ByteArray) × (List Int) × Nat) (fun ⟨k,r,L,x,y,hd,mo,ti,l,more,d,a⟩=>([.ptr 0 0 0],[RB 2 k r L.length x y hd mo ti l more,rdr d a 0,.seq .cell L])) fun ⟨k,r,L,x,y,hd,mo,ti,l,more,d,a⟩=>jfE d a
theorem jaJ (k:Int) (r:Int) (L:List CD) (x:Int) (y:Int) (hd:Bool) (mo:Int) (ti:ByteArray) (l:List ByteArray) (more:List ByteArray) (d:List Int) (a:Nat):esp_some [.ptr 0 0 0] [RB 2 k r L.length x y hd mo ti l more,rdr d a 0,.seq .cell L]=jfE d a:=jdi (α:=Int × Int × (List CD) × Int × Int × Bool × Int × ByteArray × (List ByteArray) × (List ByteArray) × (List Int) × Nat) _ jlQ (k,r,L,x,y,hd,mo,ti,l,more,d,a)
theorem jrT:MutP Tryz.prog E0 104 jiM esp_some:=MutP.of jlQ fun ⟨k,r,L,x,y,hd,mo,ti,l,more,d,a⟩ hG=>TF.intro (V:=(VV [(60,conM msp_wvar),(61,conP jhr esp_must)] (.cons (jaa jbV) (MutF.soundM jlC) (.cons (jaa jbo) (MutP.soundP jnA) GOk.nil)) 15 3)) jcx rfl rfl (by
 dsimp only at hG ⊢
 obtain ⟨h1,h2,h3⟩:=hG
 have hv:=jaR h3 a
 rcases jnB d a with ⟨hE,hq,he⟩ | ⟨hE,hq,he⟩ | ⟨hE,he⟩
 ·rw [jci he,jcj he]
  have hw:=hE
  repeat' first | exact h3 _ ‹_› | simp only [PB,SB,E,MB,seval,rdB,ne_eq,implies_true,jap,jaC,jaD] | simp only [hw] | refine T.seq ?_ | refine T.stm ?_ | refine T.rg ?_ | refine jac ?_ | refine jad ?_ | refine jae ?_ | refine T.cond ?_ | refine T.skip ?_ | refine T.ret ?_ | refine T.exit ?_ | refine T.block ?_ | refine Cos.intro [0,1,2] [] rfl ?_ | refine And.intro ?_ ?_ | (intro p0; have hyp:=p0; (try simp only [HB,ne_eq,reduceCtorEq] at hyp); (try simp only [p0]); (try clear p0); try (exfalso; omega; done)) | omega
 ·rw [ja1 (by omega),ja2 (by omega),he]
  have hw:=hE
  repeat' first | exact h3 _ ‹_› | simp only [PB,SB,E,MB,seval,rdB,ne_eq,implies_true,jap,jaC,jaD] | simp only [hw] | refine T.seq ?_ | refine T.stm ?_ | refine T.rg ?_ | refine jac ?_ | refine jad ?_ | refine jae ?_ | refine T.cond ?_ | refine T.skip ?_ | refine T.ret ?_ | refine T.exit ?_ | refine T.block ?_ | refine Cos.err (Cos.intro [0,1,2] [] rfl ?_) | refine And.intro ?_ ?_ | (intro p0; have hyp:=p0; (try simp only [HB,ne_eq,reduceCtorEq] at hyp); (try simp only [p0]); (try clear p0); try (exfalso; omega; done)) | omega
 ·rw [ja1 (by omega),ja2 (by omega),he]
  repeat' first | exact h3 _ ‹_› | simp only [PB,SB,E,MB,seval,rdB,ne_eq,implies_true,jap,jaC,jaD] | simp only [hw] | refine T.seq ?_ | refine T.stm ?_ | refine T.rg ?_ | refine jac ?_ | refine jad ?_ | refine jae ?_ | refine T.cond ?_ | refine T.skip ?_ | refine T.ret ?_ | refine T.exit ?_ | refine T.block ?_ | refine Cos.err (Cos.intro [0,1,2] [] rfl ?_) | refine And.intro ?_ ?_ | (intro p0; have hyp:=p0; (try simp only [HB,ne_eq,reduceCtorEq] at hyp); (try simp only [p0]); (try clear p0); try (exfalso; omega; done)) | omega)
theorem jkU (d:List Int) (a:Nat):(upE d a 4294967295=0∧jex (varV d a)=true∧colE d a=0)∨(upE d a 4294967295=0∧jex (varV d a)=false∧colE d a=3)∨(¬upE d a 4294967295=0∧colE d a=upE d a 4294967295):=by
 unfold colE
 by_cases h:upE d a 4294967295=0
 ·cases q:jex (varV d a)
  ·exact .inr (.inl ⟨h,rfl,by rw [if_neg (by simp [h])]; rfl⟩)
  ·exact .inl ⟨h,rfl,by rw [if_neg (by simp [h])]; rfl⟩
 ·exact .inr (.inr ⟨h,if_pos h⟩)
noncomputable def jjG:MSpec:=jcD (α:=Int × Int × (List CD) × Int × Int × Bool × Int × ByteArray × (List ByteArray) × (List ByteArray) × (List Int) × Nat) (fun ⟨k,r,L,x,y,hd,mo,ti,l,more,d,a⟩=>([.ptr 0 0 0],[RB 2 k r L.length x y hd mo ti l more,rdr d a 0,.seq .cell L])) fun ⟨k,r,L,x,y,hd,mo,ti,l,more,d,a⟩=>(RdOk d a,.ret (.int .u32 (varV d a)),[RB 2 k r L.length x y hd mo ti l more,rdr d (a+varU d a) 0,.seq .cell L])
theorem jjH:∀ (x y:Int × Int × (List CD) × Int × Int × Bool × Int × ByteArray × (List ByteArray) × (List ByteArray) × (List Int) × Nat),(fun (⟨k,r,L,x,y,hd,mo,ti,l,more,d,a⟩:Int × Int × (List CD) × Int × Int × Bool × Int × ByteArray × (List ByteArray) × (List ByteArray) × (List Int) × Nat)=>(([.ptr 0 0 0],[RB 2 k r L.length x y hd mo ti l more,rdr d a 0,.seq .cell L]):List CV × KH)) x=(fun (⟨k,r,L,x,y,hd,mo,ti,l,more,d,a⟩:Int × Int × (List CD) × Int × Int × Bool × Int × ByteArray × (List ByteArray) × (List ByteArray) × (List Int) × Nat)=>(([.ptr 0 0 0],[RB 2 k r L.length x y hd mo ti l more,rdr d a 0,.seq .cell L]):List CV × KH)) y→x=y:=fun ⟨k,r,L,x,y,hd,mo,ti,l,more,d,a⟩ ⟨k',r',L',x',y',hd',mo',ti',l',more',d',a'⟩ h=>by first | rfl | simpa [CP,jaP] using h | (simp [CP,jaP] at h ⊢; grind)
theorem jaS (k:Int) (r:Int) (L:List CD) (x:Int) (y:Int) (hd:Bool) (mo:Int) (ti:ByteArray) (l:List ByteArray) (more:List ByteArray) (d:List Int) (a:Nat):jjG [.ptr 0 0 0] [RB 2 k r L.length x y hd mo ti l more,rdr d a 0,.seq .cell L]=some (RdOk d a,.ret (.int .u32 (varV d a)),[RB 2 k r L.length x y hd mo ti l more,rdr d (a+varU d a) 0,.seq .cell L]):=jbd (α:=Int × Int × (List CD) × Int × Int × Bool × Int × ByteArray × (List ByteArray) × (List ByteArray) × (List Int) × Nat) _ jjH (k,r,L,x,y,hd,mo,ti,l,more,d,a)
noncomputable def esp_rdcol:ESpec:=jix (α:=Int × Int × (List CD) × Int × Int × Bool × Int × ByteArray × (List ByteArray) × (List ByteArray) × (List Int) × Nat) (fun ⟨k,r,L,x,y,hd,mo,ti,l,more,d,a⟩=>([.ptr 0 0 0],[RB 2 k r L.length x y hd mo ti l more,rdr d a 0,.seq .cell L])) fun ⟨k,r,L,x,y,hd,mo,ti,l,more,d,a⟩=>colE d a
theorem jaT (k:Int) (r:Int) (L:List CD) (x:Int) (y:Int) (hd:Bool) (mo:Int) (ti:ByteArray) (l:List ByteArray) (more:List ByteArray) (d:List Int) (a:Nat):esp_rdcol [.ptr 0 0 0] [RB 2 k r L.length x y hd mo ti l more,rdr d a 0,.seq .cell L]=colE d a:=jdi (α:=Int × Int × (List CD) × Int × Int × Bool × Int × ByteArray × (List ByteArray) × (List ByteArray) × (List Int) × Nat) _ jjH (k,r,L,x,y,hd,mo,ti,l,more,d,a)
theorem jt0:MutP Tryz.prog E0 106 jjG esp_rdcol:=MutP.of jjH fun ⟨k,r,L,x,y,hd,mo,ti,l,more,d,a⟩ hG=>TF.intro (V:=(VV [(62,conP jfo esp_upto),(127,conF [.any] sp_color)] (.cons (jaa jbp) (MutP.soundP jjF) (.cons (jaa jcl) (Fresh.soundF jlK) GOk.nil)) 12 3)) jds rfl rfl (by
 dsimp only at hG ⊢
 have hr:=hG
 obtain ⟨h1,h2,h3⟩:=hG
 have hv:=jaR h3 a
 rcases jkU d a with ⟨hE,hq,he⟩ | ⟨hE,hq,he⟩ | ⟨hE,he⟩
 ·rw [jci he,jcj he]
  have hu:=jcf hE
  have hw:=And.intro hE (And.intro hq (jwL (n:=varV d a) (by omega)))
  repeat' first | exact hr | simp only [PB,SB,E,MB,seval,rdB,ne_eq,implies_true,jaf,jag,jea] | simp only [hw] | refine T.seq ?_ | refine T.stm ?_ | refine T.rg ?_ | refine jac ?_ | refine jad ?_ | refine jae ?_ | refine T.cond ?_ | refine T.skip ?_ | refine T.ret ?_ | refine T.exit ?_ | refine T.block ?_ | refine Cos.intro [0,1,2] [] rfl ?_ | refine And.intro ?_ ?_ | (intro p0; have hyp:=p0; (try simp only [HB,ne_eq,reduceCtorEq] at hyp); (try simp only [p0]); (try clear p0); try (exfalso; omega; done)) | omega
 ·rw [ja1 (by omega),ja2 (by omega),he]
  have hu:=jcf hE
  have hw:=And.intro hE (And.intro hq (jwL (n:=varV d a) (by omega)))
  repeat' first | exact hr | simp only [PB,SB,E,MB,seval,rdB,ne_eq,implies_true,jaf,jag,jea] | simp only [hw] | refine T.seq ?_ | refine T.stm ?_ | refine T.rg ?_ | refine jac ?_ | refine jad ?_ | refine jae ?_ | refine T.cond ?_ | refine T.skip ?_ | refine T.ret ?_ | refine T.exit ?_ | refine T.block ?_ | refine Cos.err (Cos.intro [0,1,2] [] rfl ?_) | refine And.intro ?_ ?_ | (intro p0; have hyp:=p0; (try simp only [HB,ne_eq,reduceCtorEq] at hyp); (try simp only [p0]); (try clear p0); try (exfalso; omega; done)) | omega
 ·rw [ja1 (by omega),ja2 (by omega),he]
  repeat' first | exact hr | simp only [PB,SB,E,MB,seval,rdB,ne_eq,implies_true,jaf,jag,jea] | simp only [hw] | refine T.seq ?_ | refine T.stm ?_ | refine T.rg ?_ | refine jac ?_ | refine jad ?_ | refine jae ?_ | refine T.cond ?_ | refine T.skip ?_ | refine T.ret ?_ | refine T.exit ?_ | refine T.block ?_ | refine Cos.err (Cos.intro [0,1,2] [] rfl ?_) | refine And.intro ?_ ?_ | (intro p0; have hyp:=p0; (try simp only [HB,ne_eq,reduceCtorEq] at hyp); (try simp only [p0]); (try clear p0); try (exfalso; omega; done)) | omega)
end
end Go.Proofs.YtcfkfgkndncanaaGreatDoor
