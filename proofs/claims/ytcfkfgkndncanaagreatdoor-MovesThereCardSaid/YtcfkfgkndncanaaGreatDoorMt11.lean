/- Texts of this claim, merged by a program of this claim: FRead. -/
import Derived.Test.YtcfkfgkndncanaaGreatDoorMt10
import Derived.Test.YtcfkfgkndncanaaGreatDoorMt7
import Derived.Test.YtcfkfgkndncanaaGreatDoorMt8
namespace Go.Proofs.YtcfkfgkndncanaaGreatDoor
set_option linter.unusedVariables false
set_option linter.unusedSimpArgs false
section
open Go.RowKit
set_option maxRecDepth 100000
set_option maxHeartbeats 4000000
abbrev rdr (d:List Int) (a:Nat) (e:Int):KB:=.box [.vec (.int .u8) d,.int .i64 a,.int .i64 e]
noncomputable def msp_wnew:MSpec:=jcD (α:=(List Int)) (fun d=>([.vec (.int .u8) d],[])) fun d=>(d.length≤1000000,.ret (.ptr 0 0 0),[rdr d 0 0])
theorem jbv (d:List Int):msp_wnew [.vec (.int .u8) d] []=some (d.length≤1000000,.ret (.ptr 0 0 0),[rdr d 0 0]):=jbd (α:=(List Int)) _ (fun d d' h=>by first | rfl | simpa [CP,jaP] using h | (simp [CP,jaP] at h ⊢; grind)) d
theorem jvD:MutF Tryz.prog E0 26 msp_wnew:=MutF.of fun d hG=>TF.intro (V:=(VV [] GOk.nil 7 0)) jkB rfl rfl (by
 dsimp only at hG ⊢
 have hl:=hG
 repeat' first | simp only [SB,E,MB,seval,rdB,ne_eq,implies_true] | apply tA | apply tB | apply tC | apply tD | apply tE | apply tF | apply tG | apply tH | apply tI | apply tJ | apply tK | apply And.intro | (intro p0; have hyp:=p0; (try simp only [HB,ne_eq,reduceCtorEq] at hyp); (try simp only [p0]); (try clear p0); try (exfalso; omega; done)) | omega
 exact Cos.intro [1] [0] rfl (by (simp only [SB,E,MB,seval,rdB,ne_eq,implies_true]; first | done | ((repeat' apply And.intro) <;> first | rfl | omega | (simp; done) | (simp; omega)))))
noncomputable def msp_wleft:MSpec:=jcD (α:=(List Int) × Nat × Int) (fun ⟨d,a,e⟩=>([.ptr 0 0 0],[rdr d a e])) fun ⟨d,a,e⟩=>(a≤d.length∧d.length≤1000000,.ret (.int .i64 ((d.length:Int) - a)),[rdr d a e])
theorem jbg (d:List Int) (a:Nat) (e:Int):msp_wleft [.ptr 0 0 0] [rdr d a e]=some (a≤d.length∧d.length≤1000000,.ret (.int .i64 ((d.length:Int) - a)),[rdr d a e]):=jbd (α:=(List Int) × Nat × Int) _ (fun ⟨d,a,e⟩ ⟨d',a',e'⟩ h=>by first | rfl | simpa [CP,jaP] using h | (simp [CP,jaP] at h ⊢; grind)) (d,a,e)
theorem jtD:MutF Tryz.prog E0 27 msp_wleft:=MutF.of fun ⟨d,a,e⟩ hG=>TF.intro (V:=(VV [] GOk.nil 15 1)) jev rfl rfl (by
 dsimp only at hG ⊢
 obtain ⟨h1,h2⟩:=hG
 repeat' first | simp only [SB,E,MB,seval,rdB,ne_eq,implies_true] | refine T.seq ?_ | refine T.stm ?_ | refine T.rg ?_ | refine jac ?_ | refine jad ?_ | refine jae ?_ | refine T.cond ?_ | refine T.skip ?_ | refine T.ret ?_ | refine T.exit ?_ | refine T.block ?_ | refine Cos.intro [0] [] rfl ?_ | refine And.intro ?_ ?_ | (intro p0; have hyp:=p0; (try simp only [HB,ne_eq,reduceCtorEq] at hyp); (try simp only [p0]); (try clear p0); try (exfalso; omega; done)) | omega)
noncomputable def msp_werr:MSpec:=jcD (α:=(List Int) × Nat × Int) (fun ⟨d,a,e⟩=>([.ptr 0 0 0],[rdr d a e])) fun ⟨d,a,e⟩=>(True,.ret (.int .i64 e),[rdr d a e])
theorem jfd (d:List Int) (a:Nat) (e:Int):msp_werr [.ptr 0 0 0] [rdr d a e]=some (True,.ret (.int .i64 e),[rdr d a e]):=jbd (α:=(List Int) × Nat × Int) _ (fun ⟨d,a,e⟩ ⟨d',a',e'⟩ h=>by first | rfl | simpa [CP,jaP] using h | (simp [CP,jaP] at h ⊢; grind)) (d,a,e)
theorem jrn:MutF Tryz.prog E0 101 msp_werr:=MutF.of fun ⟨d,a,e⟩ hG=>TF.intro (V:=(VV [] GOk.nil 9 1)) jdb rfl rfl (by
 dsimp only at hG ⊢
 repeat' first | simp only [SB,E,MB,seval,rdB,ne_eq,implies_true] | refine T.seq ?_ | refine T.stm ?_ | refine T.rg ?_ | refine jac ?_ | refine jad ?_ | refine jae ?_ | refine T.cond ?_ | refine T.skip ?_ | refine T.ret ?_ | refine T.exit ?_ | refine T.block ?_ | refine Cos.intro [0] [] rfl ?_ | refine And.intro ?_ ?_ | (intro p0; have hyp:=p0; (try simp only [HB,ne_eq,reduceCtorEq] at hyp); (try simp only [p0]); (try clear p0); try (exfalso; omega; done)) | omega)
noncomputable def msp_wnum1:MSpec:=jcD (α:=(List Int) × Nat) (fun ⟨d,a⟩=>([.ptr 0 0 0,.int .i64 1],[rdr d a 0])) fun ⟨d,a⟩=>(a < d.length∧d.length≤1000000∧Bts d,.ret (.int .u64 (d.getD a 0)),[rdr d (a+1) 0])
theorem jbh (d:List Int) (a:Nat):msp_wnum1 [.ptr 0 0 0,.int .i64 1] [rdr d a 0]=some (a < d.length∧d.length≤1000000∧Bts d,.ret (.int .u64 (d.getD a 0)),[rdr d (a+1) 0]):=jbd (α:=(List Int) × Nat) _ (fun ⟨d,a⟩ ⟨d',a'⟩ h=>by first | rfl | simpa [CP,jaP] using h | (simp [CP,jaP] at h ⊢; grind)) (d,a)
theorem jtE:MutF Tryz.prog E0 28 msp_wnum1:=MutF.of fun ⟨d,a⟩ hG=>TF.intro (V:=(VV [] GOk.nil 68 1)) jeP rfl rfl (by
 dsimp only at hG ⊢
 obtain ⟨h1,h2,h3⟩:=hG
 have hb:=h3 _ (jhj (d:=0) h1)
 repeat' first | simp only [SB,E,MB,seval,rdB,ne_eq,implies_true] | simp only [hw] | simp only [hw2] | simp only [hw3] | refine T.seq ?_ | refine T.stm ?_ | refine T.rg ?_ | refine jac ?_ | refine jad ?_ | refine jae ?_ | refine T.cond ?_ | refine T.skip ?_ | refine T.ret ?_ | refine T.exit ?_ | refine T.block ?_ | refine Cos.intro [0] [] rfl ?_ | refine And.intro ?_ ?_ | (intro p0; have hyp:=p0; (try simp only [HB,ne_eq,reduceCtorEq] at hyp); (try simp only [p0]); (try clear p0); try (exfalso; omega; done)) | omega
 refine T.unroll 2 ?_
 simp only [TR]
 have hw:IntKind.u64.wrap 0=0:=rfl
 have hw2:((0 ||| (d.getD a 0).toNat:Nat):Int)=d.getD a 0:=by
  rw [Nat.zero_or]
  omega
 have hbits:(8:Int)≤(IntKind.u64.bits:Int):=Int.ofNat_le.2 (show 8≤64 by omega)
 have hw3:=eq_true hbits
 repeat' first | simp only [SB,E,MB,seval,rdB,ne_eq,implies_true] | simp only [hw] | simp only [hw2] | simp only [hw3] | refine T.seq ?_ | refine T.stm ?_ | refine T.rg ?_ | refine jac ?_ | refine jad ?_ | refine jae ?_ | refine T.cond ?_ | refine T.skip ?_ | refine T.ret ?_ | refine T.exit ?_ | refine T.block ?_ | refine Cos.intro [0] [] rfl ?_ | refine And.intro ?_ ?_ | (intro p0; have hyp:=p0; (try simp only [HB,ne_eq,reduceCtorEq] at hyp); (try simp only [p0]); (try clear p0); try (exfalso; omega; done)) | omega)
theorem jwW {n m:Int} {i:Nat} (h0:0≤n) (h1:n < 2 ^ i) (h2:0≤m):((n.toNat ||| (m * 2 ^ i).toNat:Nat):Int)=n+m * 2 ^ i:=by
 obtain ⟨x,rfl⟩:∃ x:Nat,n=x:=⟨n.toNat,by omega⟩
 obtain ⟨y,rfl⟩:∃ y:Nat,m=y:=⟨m.toNat,by omega⟩
 have e:((y:Int) * 2 ^ i)=((y * 2 ^ i:Nat):Int):=by simp
 rw [e,Int.toNat_natCast,Int.toNat_natCast,Nat.or_comm,← Nat.shiftLeft_eq,← Nat.shiftLeft_add_eq_or_of_lt (by
  have:((x:Int) < ((2 ^ i:Nat):Int)):=by simpa using h1
  omega),Nat.shiftLeft_eq]
 omega
theorem jwX {b:Int} (h0:0≤b):((b.toNat &&& 127:Nat):Int)=b % 128:=by
 have:=Nat.and_two_pow_sub_one_eq_mod b.toNat 7
 simp only [show (2:Nat) ^ 7 - 1=127 from rfl,show (2:Nat) ^ 7=128 from rfl] at this
 rw [this]
 omega
theorem jhS {n:Int} (h0:0≤n) (h1:n < 18446744073709551616):IntKind.u64.wrap n=n:=jnf ⟨h0,by omega⟩
noncomputable def msp_wvar:MSpec:=jcD (α:=(List Int) × Nat) (fun ⟨d,a⟩=>([.ptr 0 0 0],[rdr d a 0])) fun ⟨d,a⟩=>(a≤d.length∧d.length≤1000000∧Bts d,.ret (.int .u64 (varV d a)),[rdr d (a+varU d a) (varE d a)])
theorem jap (d:List Int) (a:Nat):msp_wvar [.ptr 0 0 0] [rdr d a 0]=some (a≤d.length∧d.length≤1000000∧Bts d,.ret (.int .u64 (varV d a)),[rdr d (a+varU d a) (varE d a)]):=jbd (α:=(List Int) × Nat) _ (fun ⟨d,a⟩ ⟨d',a'⟩ h=>by first | rfl | simpa [CP,jaP] using h | (simp [CP,jaP] at h ⊢; grind)) (d,a)
theorem jlC:MutF Tryz.prog E0 60 msp_wvar:=MutF.of fun ⟨d,a⟩ hG=>TF.intro (V:=(VV [] GOk.nil 82 1)) jbV rfl rfl (by
 dsimp only at hG ⊢
 obtain ⟨h1,h2,h3⟩:=hG
 repeat' first | simp only [SB,E,MB,seval,rdB,ne_eq,implies_true] | simp only [hw] | simp only [hw2] | simp only [hw3] | apply tA | apply tB | apply tC | apply tD | apply tE | apply tF | apply tG | apply tH | apply tI | apply tJ | apply tK | apply And.intro | (intro p0; have hyp:=p0; (try simp only [HB,ne_eq,reduceCtorEq] at hyp); (try simp only [p0]); (try clear p0); try (exfalso; omega; done)) | omega
 refine T.loop (fun x:Nat × Int=>⟨[(0,.ptr 0 0 0),(3,.int .u64 x.2),(4,.int .i64 x.1)],[rdr d a 0]⟩) (fun x=>x.1≤9∧(0≤x.2∧x.2 < 2 ^ (7 * x.1))∧a+x.1≤d.length∧varG (d.drop (a+x.1)) x.1 x.2=varG (d.drop a) 0 0) (fun x=>10 - x.1) (0,0) ⟨by omega,by simp,by omega,rfl⟩ (Cos.intro [0] [] rfl (by (simp only [SB,E,MB,seval,rdB,ne_eq,implies_true]; first | done | ((repeat' apply And.intro) <;> first | rfl | omega | (simp; done) | (simp; omega))))) (fun ⟨i,n⟩ ⟨hi,⟨hn0,hn1⟩,hal,hv⟩=>?_)
 dsimp only at hi hn0 hn1 hal hv ⊢
 have hbits:IntKind.u64.bits=64:=rfl
 by_cases hend:a+i < d.length
 ·have hb:=h3 _ (jhj (d:=0) hend)
  have hcons:d.drop (a+i)=d.getD (a+i) 0 :: d.drop (a+(i+1)):=by
   rw [List.drop_eq_getElem_cons hend,List.getD_eq_getElem?_getD,List.getElem?_eq_getElem hend]
   rfl
  rw [hcons] at hv
  simp only [varG] at hv
  generalize hbd:d.getD (a+i) 0=b at hb hv
  have hM:(¬(i:Int)=9∨¬1 < b)→(0≤b % 128 * 2 ^ (7 * i)∧b % 128 * 2 ^ (7 * i) < 18446744073709551616)∧n+b % 128 * 2 ^ (7 * i) < 18446744073709551616∧n < 18446744073709551616:=fun h=>by
   have hi2:i=0∨i=1∨i=2∨i=3∨i=4∨i=5∨i=6∨i=7∨i=8∨i=9:=by omega
   rcases hi2 with rfl | rfl | rfl | rfl | rfl | rfl | rfl | rfl | rfl | rfl <;> simp at hn1 h ⊢ <;> omega
  have hw2:=And.intro hbd (And.intro (show ((a:Int)+i).toNat=a+i by omega) (And.intro (jwX hb.1) (And.intro (show IntKind.u64.wrap (7 * (i:Int))=7 * i from jhS (by omega) (by omega)) (show ((7:Int) * (i:Int)).toNat=7 * i by omega))))
  by_cases hbad:((i:Int)=9∧1 < b)∨(0 < (i:Int)∧b=0)
  ·have e:varG (d.drop a) 0 0=(3,0,0):=by rw [← hv,if_pos (by omega)]
   have hw:=And.intro (show ((i:Int)=9∧1 < b∨0 < (i:Int)∧b=0)=True from eq_true hbad) e
   repeat' first | exfalso; omega | simp only [SB,E,MB,seval,rdB,ne_eq,implies_true] | simp only [hw] | simp only [hw2] | simp only [hw3] | apply tA | apply tB | apply tC | apply tD | apply tE | apply tF | apply tG | apply tH | apply tI | apply tJ | apply tK | apply And.intro | (intro p0; have hyp:=p0; (try simp only [HB,ne_eq,reduceCtorEq] at hyp); (try simp only [p0]); (try clear p0); try (exfalso; omega; done)) | omega
   exact Cos.intro [0] [] rfl (by simp only [varE,varV,varU,e]; (simp only [SB,E,MB,seval,rdB,ne_eq,implies_true]; first | done | ((repeat' apply And.intro) <;> first | rfl | omega | (simp; done) | (simp; omega))))
  ·have hm:=hM (by omega)
   have hw:=jhS hm.1.1 hm.1.2
   have hO:=jwW hn0 hn1 (show 0≤b % 128 by omega)
   have hw3:=hO
   repeat' first | simp only [SB,E,MB,seval,rdB,ne_eq,implies_true] | simp only [hw] | simp only [hw2] | simp only [hw3] | apply tA | apply tB | apply tC | apply tD | apply tE | apply tF | apply tG | apply tH | apply tI | apply tJ | apply tK | apply And.intro | (intro p0; have hyp:=p0; (try simp only [HB,ne_eq,reduceCtorEq] at hyp); (try simp only [p0]); (try clear p0); try (exfalso; omega; done)) | omega
   ·have e:varG (d.drop a) 0 0=(0,n+b * 2 ^ (7 * i),i+1):=by rw [← hv,if_neg (by omega),if_pos hyp]
    rw [show b % 128=b by omega]
    exact Cos.intro [0] [] rfl (by simp only [varE,varV,varU,e]; (simp only [SB,E,MB,seval,rdB,ne_eq,implies_true]; first | done | ((repeat' apply And.intro) <;> first | rfl | omega | (simp; done) | (simp; omega))))
   ·rw [if_neg (by omega),if_neg hyp] at hv
    have hq:i≤8:=by omega
    refine ⟨(i+1,n+(b - 128) * 2 ^ (7 * i)),⟨by simp only; omega,?_,by simp only; omega,hv⟩,by simp only; omega,Cos.intro [0] [] rfl (by rw [show b % 128=b - 128 by omega]; (simp only [SB,E,MB,seval,rdB,ne_eq,implies_true]; first | done | ((repeat' apply And.intro) <;> first | rfl | omega | (simp; done) | (simp; omega))))⟩
    have hi2:i=0∨i=1∨i=2∨i=3∨i=4∨i=5∨i=6∨i=7∨i=8:=by omega
    rcases hi2 with rfl | rfl | rfl | rfl | rfl | rfl | rfl | rfl | rfl <;> simp at hn1 ⊢ <;> omega
 ·have hnil:d.drop (a+i)=[]:=List.drop_of_length_le (by omega)
  rw [hnil] at hv
  repeat' first | simp only [SB,E,MB,seval,rdB,ne_eq,implies_true] | simp only [hw] | simp only [hw2] | simp only [hw3] | apply tA | apply tB | apply tC | apply tD | apply tE | apply tF | apply tG | apply tH | apply tI | apply tJ | apply tK | apply And.intro | (intro p0; have hyp:=p0; (try simp only [HB,ne_eq,reduceCtorEq] at hyp); (try simp only [p0]); (try clear p0); try (exfalso; omega; done)) | omega
  have:varG (d.drop a) 0 0=(2,0,0):=by rw [← hv]; rfl
  exact Cos.intro [0] [] rfl (by simp only [varE,varV,varU,this]; (simp only [SB,E,MB,seval,rdB,ne_eq,implies_true]; first | done | ((repeat' apply And.intro) <;> first | rfl | omega | (simp; done) | (simp; omega)))))
noncomputable def msp_wtake:MSpec:=jcD (α:=(List Int) × Nat × Int) (fun ⟨d,a,n⟩=>([.ptr 0 0 0,.int .i64 n],[rdr d a 0])) fun ⟨d,a,n⟩=>((0≤n∧a+n≤d.length)∧d.length≤1000000,.ret (.vec (.int .u8) ((d.drop a).take n.toNat)),[rdr d (a+n.toNat) 0])
theorem jb0 (d:List Int) (a:Nat) (n:Int):msp_wtake [.ptr 0 0 0,.int .i64 n] [rdr d a 0]=some ((0≤n∧a+n≤d.length)∧d.length≤1000000,.ret (.vec (.int .u8) ((d.drop a).take n.toNat)),[rdr d (a+n.toNat) 0]):=jbd (α:=(List Int) × Nat × Int) _ (fun ⟨d,a,n⟩ ⟨d',a',n'⟩ h=>by first | rfl | simpa [CP,jaP] using h | (simp [CP,jaP] at h ⊢; grind)) (d,a,n)
theorem jtF:MutF Tryz.prog E0 102 msp_wtake:=MutF.of fun ⟨d,a,n⟩ hG=>TF.intro (V:=(VV [] GOk.nil 63 1)) jew rfl rfl (by
 dsimp only at hG ⊢
 obtain ⟨⟨h0,h1⟩,h2⟩:=hG
 obtain ⟨m,rfl⟩:∃ m:Nat,n=m:=⟨n.toNat,by omega⟩
 simp only [Int.toNat_natCast]
 have hl:((d.drop a).take m).length=m:=by simp; omega
 have hw:=hl
 repeat' first | simp only [SB,E,MB,seval,rdB,ne_eq,implies_true] | simp only [hw] | apply tA | apply tB | apply tC | apply tD | apply tE | apply tF | apply tG | apply tH | apply tI | apply tJ | apply tK | apply And.intro | (intro p0; have hyp:=p0; (try simp only [HB,ne_eq,reduceCtorEq] at hyp); (try simp only [p0]); (try clear p0); try (exfalso; omega; done)) | omega
 refine Cos.intro [0] [1] rfl ?_
 simp only [SB,E,MB,seval,rdB,ne_eq,implies_true]
 simp [hl,crs,crsL,ETy.cast_same,List.take_take])
noncomputable def msp_wtext:MSpec:=jcD (α:=(List Int) × Nat × Int) (fun ⟨d,a,most⟩=>([.ptr 0 0 0,.int .i64 most],[rdr d a 0])) fun ⟨d,a,most⟩=>(a≤d.length∧d.length≤1000000∧Bts d∧(0≤most∧most≤1000000),.ret (.vec (.int .u8) (jek d a most)),[rdr d (a+jel d a most) (jdq d a most)])
theorem jaq (d:List Int) (a:Nat) (most:Int):msp_wtext [.ptr 0 0 0,.int .i64 most] [rdr d a 0]=some (a≤d.length∧d.length≤1000000∧Bts d∧(0≤most∧most≤1000000),.ret (.vec (.int .u8) (jek d a most)),[rdr d (a+jel d a most) (jdq d a most)]):=jbd (α:=(List Int) × Nat × Int) _ (fun ⟨d,a,most⟩ ⟨d',a',most'⟩ h=>by first | rfl | simpa [CP,jaP] using h | (simp [CP,jaP] at h ⊢; grind)) (d,a,most)
theorem joA:MutF Tryz.prog E0 63 msp_wtext:=MutF.of fun ⟨d,a,most⟩ hG=>TF.intro (V:=(VV [(60,conM msp_wvar),(102,conM msp_wtake)] (.cons (jaa jbV) (MutF.soundM jlC) (.cons (jaa jew) (MutF.soundM jtF) GOk.nil)) 58 1)) jcV rfl rfl (by
 dsimp only at hG ⊢
 obtain ⟨h1,h2,h3,h4,h5⟩:=hG
 have hu:=jbx h1
 have hv:=jaR h3 a
 have hwm:=jhS h4 (show most < 18446744073709551616 by omega)
 have hwl:=jhS (show 0≤(d.length:Int) - (a+varU d a:Nat) by omega) (show (d.length:Int) - (a+varU d a:Nat) < 18446744073709551616 by omega)
 have hsub:((d.length - (a+varU d a):Nat):Int)=(d.length:Int) - (a+varU d a:Nat):=by omega
 by_cases hE:varE d a=0
 ·have hw:=And.intro hE (And.intro hwm hwl)
  by_cases hlong:most < varV d a
  ·have e:jdq d a most=4:=by rw [jdq,if_neg (by simp [hE]),if_pos hlong]
   have hx:jek d a most=[]∧jel d a most=0:=by simp [jek,jel,e]
   repeat' first | exact h3 _ ‹_› | simp only [SB,E,MB,seval,rdB,ne_eq,implies_true,jap,jb0] | simp only [hw] | simp only [hw2] | apply tA | apply tB | apply tC | apply tD | apply tE | apply tF | apply tG | apply tH | apply tI | apply tJ | apply tK | apply And.intro | (intro p0; have hyp:=p0; (try simp only [HB,ne_eq,reduceCtorEq] at hyp); (try simp only [p0]); (try clear p0); try (exfalso; omega; done)) | omega
   exact Cos.intro [0] [] rfl (by rw [hx.1,hx.2,e]; (simp only [SB,E,MB,seval,rdB,ne_eq,implies_true,jap,jb0]; first | done | ((repeat' apply And.intro) <;> first | rfl | omega | (simp; done) | (simp; omega))))
  ·by_cases hshort:((d.length - (a+varU d a):Nat):Int) < varV d a
   ·have e:jdq d a most=2:=by rw [jdq,if_neg (by simp [hE]),if_neg hlong,if_pos hshort]
    have hx:jek d a most=[]∧jel d a most=0:=by simp [jek,jel,e]
    repeat' first | exact h3 _ ‹_› | simp only [SB,E,MB,seval,rdB,ne_eq,implies_true,jap,jb0] | simp only [hw] | simp only [hw2] | apply tA | apply tB | apply tC | apply tD | apply tE | apply tF | apply tG | apply tH | apply tI | apply tJ | apply tK | apply And.intro | (intro p0; have hyp:=p0; (try simp only [HB,ne_eq,reduceCtorEq] at hyp); (try simp only [p0]); (try clear p0); try (exfalso; omega; done)) | omega
    exact Cos.intro [0] [] rfl (by rw [hx.1,hx.2,e]; (simp only [SB,E,MB,seval,rdB,ne_eq,implies_true,jap,jb0]; first | done | ((repeat' apply And.intro) <;> first | rfl | omega | (simp; done) | (simp; omega))))
   ·have e:jdq d a most=0:=by rw [jdq,if_neg (by simp [hE]),if_neg hlong,if_neg hshort]
    have hx:jek d a most=(d.drop (a+varU d a)).take (varV d a).toNat∧jel d a most=varU d a+(varV d a).toNat:=by simp [jek,jel,e]
    have hw2:=jng (show -9223372036854775808≤varV d a∧varV d a≤9223372036854775807 by omega)
    repeat' first | exact h3 _ ‹_› | simp only [SB,E,MB,seval,rdB,ne_eq,implies_true,jap,jb0] | simp only [hw] | simp only [hw2] | apply tA | apply tB | apply tC | apply tD | apply tE | apply tF | apply tG | apply tH | apply tI | apply tJ | apply tK | apply And.intro | (intro p0; have hyp:=p0; (try simp only [HB,ne_eq,reduceCtorEq] at hyp); (try simp only [p0]); (try clear p0); try (exfalso; omega; done)) | omega
    exact Cos.intro [0] [] rfl (by rw [hx.1,hx.2,e]; (simp only [SB,E,MB,seval,rdB,ne_eq,implies_true,jap,jb0]; first | done | ((repeat' apply And.intro) <;> first | rfl | omega | (simp; done) | (simp; omega))))
 ·have e:jdq d a most=varE d a:=by rw [jdq,if_pos hE]
  have hx:jek d a most=[]∧jel d a most=0:=by simp [jek,jel,e,hE]
  repeat' first | exact h3 _ ‹_› | simp only [SB,E,MB,seval,rdB,ne_eq,implies_true,jap,jb0] | simp only [hw] | simp only [hw2] | apply tA | apply tB | apply tC | apply tD | apply tE | apply tF | apply tG | apply tH | apply tI | apply tJ | apply tK | apply And.intro | (intro p0; have hyp:=p0; (try simp only [HB,ne_eq,reduceCtorEq] at hyp); (try simp only [p0]); (try clear p0); try (exfalso; omega; done)) | omega
  exact Cos.intro [0] [] rfl (by rw [hx.1,hx.2,e]; (simp only [SB,E,MB,seval,rdB,ne_eq,implies_true,jap,jb0]; first | done | ((repeat' apply And.intro) <;> first | rfl | omega | (simp; done) | (simp; omega)))))
end
end Go.Proofs.YtcfkfgkndncanaaGreatDoor
