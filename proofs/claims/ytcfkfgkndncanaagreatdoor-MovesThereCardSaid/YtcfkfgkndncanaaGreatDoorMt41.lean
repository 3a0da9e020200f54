/- Texts of this claim, merged by a program of this claim: FApply5. -/
import Derived.Test.YtcfkfgkndncanaaGreatDoorMt29
import Derived.Test.YtcfkfgkndncanaaGreatDoorMt39
import Derived.Test.YtcfkfgkndncanaaGreatDoorMt40
namespace Go.Proofs.YtcfkfgkndncanaaGreatDoor
set_option linter.unusedVariables false
set_option linter.unusedSimpArgs false
section
open Go.RowKit
set_option maxRecDepth 100000
set_option maxHeartbeats 4000000
theorem jkg {k r:Int} {L:List CD} {x y mo:Int} {ti:ByteArray} {l:List ByteArray} (h:ja0 k r L x y mo ti l=true):jbN k r L=true:=by
 unfold ja0 at h
 simp only [HB,ne_eq,reduceCtorEq] at h
 exact h.1.1.1.1.1.1.1.1
abbrev jwf:List CV:=[.int .i64 0,.int .i64 0,.nils,.int .i64 0,.int .i64 0,.bool false,.int .u8 0,.str (bs []),.nils]
theorem jw7 (x y:CV) (h:KH):Clo Tryz.prog E0 jf2 [x,y] .niliface h h:=by
 refine Clo.intro (V:=VV [] GOk.nil 17 h.length) jf3 rfl rfl ?_
 repeat' first | simp only [PB,SB,E,seval,rdB,ne_eq,implies_true,tq0,tq1,tq2] | apply tA | apply tB | apply tC | apply tD | apply tE | apply tF | apply tG | apply tH | apply tI | apply tJ | apply tK | apply And.intro | (intro p0; have hyp:=p0; (try simp only [HB,ne_eq,reduceCtorEq] at hyp); (try simp only [p0]); (try clear p0); try (exfalso; omega; done)) | omega
theorem jsD (A:KB) (c:CV) (rest:KH) (no:Int):Clo Tryz.prog E0 jf2 [.ptr 1 0 0,.ptr 2 0 0] (errV no) (A :: .box jwf :: .box [c] :: rest) (A :: .box jwf :: .box [.int .i64 no] :: rest):=by
 refine Clo.intro (V:=VV [] GOk.nil 17 (A :: .box jwf :: .box [c] :: rest).length) jf3 rfl rfl ?_
 repeat' first | simp only [PB,SB,E,seval,rdB,ne_eq,implies_true,tq0,tq1,tq2] | apply tA | apply tB | apply tC | apply tD | apply tE | apply tF | apply tG | apply tH | apply tI | apply tJ | apply tK | apply And.intro | (intro p0; have hyp:=p0; (try simp only [HB,ne_eq,reduceCtorEq] at hyp); (try simp only [p0]); (try clear p0); try (exfalso; omega; done)) | omega
theorem jp8 {k r:Int} {L:List CD} {x y mo:Int} {ti:ByteArray} {l:List ByteArray} (h:ja0 k r L x y mo ti l=true):Szd k r L∧l.length≤16∧∀ c∈L,c.link≤l.length:=by
 have hg:=jkg h
 obtain ⟨hk,hr,hl,_⟩:=jh5 hg
 unfold ja0 at h
 simp only [Bool.and_eq_true,decide_eq_true_eq] at h
 obtain ⟨⟨⟨⟨⟨⟨⟨⟨h1,h2⟩,h3⟩,h4⟩,h5⟩,h6⟩,h7⟩,h8⟩,h9⟩:=h
 unfold jcb at h2
 simp only [Bool.and_eq_true,decide_eq_true_eq] at h2
 obtain ⟨K,rfl⟩:∃ n:Nat,k=n:=⟨k.toNat,by omega⟩
 obtain ⟨R,rfl⟩:∃ n:Nat,r=n:=⟨r.toNat,by omega⟩
 refine ⟨⟨hk,hr,?_⟩,h2.1.1,fun t ht=>jiK h2.2 t ht⟩
 rw [← Int.natCast_mul] at hl
 simp only [Int.toNat_natCast]
 omega
theorem jsE {d:List Int} {s b:RS} {e:Int} (h1:ja0 s.k s.r s.L s.x s.y s.mo s.ti s.l=true) (h:goG d 9 0 { s with more:=s.l,a:=0 }=(e,b)) (he:e ≠ 0):apG d s=(e,jkq):=by
 unfold apG
 rw [if_neg (by rw [h1]; decide),h,if_pos he]
theorem jwg {d:List Int} {s b:RS} (h1:ja0 s.k s.r s.L s.x s.y s.mo s.ti s.l=true) (h:goG d 9 0 { s with more:=s.l,a:=0 }=(0,b)) (h2:ja0 b.k b.r b.L b.x b.y b.mo b.ti b.more=false):apG d s=(3,jkq):=by
 unfold apG
 rw [if_neg (by rw [h1]; decide),h,if_neg (fun q=>q rfl),if_pos h2]
theorem jsF {d:List Int} {s b:RS} (h1:ja0 s.k s.r s.L s.x s.y s.mo s.ti s.l=true) (h:goG d 9 0 { s with more:=s.l,a:=0 }=(0,b)) (h2:ja0 b.k b.r b.L b.x b.y b.mo b.ti b.more=true):apG d s=(0,b):=by
 unfold apG
 rw [if_neg (by rw [h1]; decide),h,if_neg (fun q=>q rfl),if_neg (by rw [h2]; decide)]
noncomputable def sp_apply:Spec:=spOf (α:=Int × Int × (List CD) × Int × Int × Bool × Int × ByteArray × (List ByteArray) × (List Int)) (fun ⟨k,r,L,x,y,hd,mo,ti,l,d⟩=>[.agg [.int .i64 k,.int .i64 r,.vec .cell L,.int .i64 x,.int .i64 y,.bool hd,.int .u8 mo,.str ti,.vec .str l],.vec (.int .u8) d]) fun ⟨k,r,L,x,y,hd,mo,ti,l,d⟩=>(ScrOk L l∧SLen ti∧(∀ c∈L,CWf c)∧d.length≤1000000∧Bts d,.ret (.tup [.agg [.int .i64 (apG d ⟨k,r,L,x,y,hd,mo,ti,l,[],0⟩).2.k,.int .i64 (apG d ⟨k,r,L,x,y,hd,mo,ti,l,[],0⟩).2.r,.vec .cell (apG d ⟨k,r,L,x,y,hd,mo,ti,l,[],0⟩).2.L,.int .i64 (apG d ⟨k,r,L,x,y,hd,mo,ti,l,[],0⟩).2.x,.int .i64 (apG d ⟨k,r,L,x,y,hd,mo,ti,l,[],0⟩).2.y,.bool (apG d ⟨k,r,L,x,y,hd,mo,ti,l,[],0⟩).2.hd,.int .u8 (apG d ⟨k,r,L,x,y,hd,mo,ti,l,[],0⟩).2.mo,.str (apG d ⟨k,r,L,x,y,hd,mo,ti,l,[],0⟩).2.ti,.vec .str (apG d ⟨k,r,L,x,y,hd,mo,ti,l,[],0⟩).2.more],.int .i64 (apG d ⟨k,r,L,x,y,hd,mo,ti,l,[],0⟩).1]))
theorem jfz (k:Int) (r:Int) (L:List CD) (x:Int) (y:Int) (hd:Bool) (mo:Int) (ti:ByteArray) (l:List ByteArray) (d:List Int):sp_apply [.agg [.int .i64 k,.int .i64 r,.vec .cell L,.int .i64 x,.int .i64 y,.bool hd,.int .u8 mo,.str ti,.vec .str l],.vec (.int .u8) d]=some (ScrOk L l∧SLen ti∧(∀ c∈L,CWf c)∧d.length≤1000000∧Bts d,.ret (.tup [.agg [.int .i64 (apG d ⟨k,r,L,x,y,hd,mo,ti,l,[],0⟩).2.k,.int .i64 (apG d ⟨k,r,L,x,y,hd,mo,ti,l,[],0⟩).2.r,.vec .cell (apG d ⟨k,r,L,x,y,hd,mo,ti,l,[],0⟩).2.L,.int .i64 (apG d ⟨k,r,L,x,y,hd,mo,ti,l,[],0⟩).2.x,.int .i64 (apG d ⟨k,r,L,x,y,hd,mo,ti,l,[],0⟩).2.y,.bool (apG d ⟨k,r,L,x,y,hd,mo,ti,l,[],0⟩).2.hd,.int .u8 (apG d ⟨k,r,L,x,y,hd,mo,ti,l,[],0⟩).2.mo,.str (apG d ⟨k,r,L,x,y,hd,mo,ti,l,[],0⟩).2.ti,.vec .str (apG d ⟨k,r,L,x,y,hd,mo,ti,l,[],0⟩).2.more],.int .i64 (apG d ⟨k,r,L,x,y,hd,mo,ti,l,[],0⟩).1])):=jar (α:=Int × Int × (List CD) × Int × Int × Bool × Int × ByteArray × (List ByteArray) × (List Int)) _ (fun ⟨k,r,L,x,y,hd,mo,ti,l,d⟩ ⟨k',r',L',x',y',hd',mo',ti',l',d'⟩ h=>by first | simpa [CP] using h | (simp [CP] at h ⊢; grind)) (k,r,L,x,y,hd,mo,ti,l,d)
theorem jum:Alias Tryz.prog E0 11 sp_apply:=Alias.of fun ⟨k,r,L,x,y,hd,mo,ti,l,d⟩ hG=>TFD.intro (V:=(VV [(22,conF [.agg [.any,.any,.sl .cell,.any,.any,.any,.any,.any,.sl .str]] sp_eright),(24,conT [.sl .cell] sp_clone),(25,conT [.sl .str] sp_sclone),(26,conM msp_wnew),(27,conM msp_wleft),(28,conM msp_wnum1),(29,conP jke esp_thing)] (.cons (jaa jdE) (Fresh.soundF jj0) (.cons (jaa ja8) (Fresh.soundT jgc) (.cons (jaa jcp) (Fresh.soundT jmP) (.cons (jaa jkB) (MutF.soundM jvD) (.cons (jaa jev) (MutF.soundM jtD) (.cons (jaa jeP) (MutF.soundM jtE) (.cons (jaa jdt) (MutP.soundP juk) GOk.nil))))))) 72 0)) jhx rfl rfl (by
 dsimp only at hG ⊢
 obtain ⟨hsc,hti,hwf,hdl,hb⟩:=hG
 have hw:=And.intro hsc hti
 refine TD.pre rfl ?_
 repeat' first | simp only [PB,SB,E,MB,seval,rdB,ne_eq,implies_true,jaH,jai,jaQ,jbv,jbg,jbh,jbj,jbk,tq0,tq1,tq2] | simp only [hw] | apply tA | apply tB | apply tC | apply tD | apply tE | apply tF | apply tG | apply tH | apply tI | apply tJ | apply tK | apply And.intro | (intro p0; have hyp:=p0; (try simp only [HB,ne_eq,reduceCtorEq] at hyp); (try simp only [p0]); (try clear p0); try (exfalso; omega; done)) | omega
 refine TD.pre rfl ?_
 repeat' first | exact hsc | simp only [PB,SB,E,MB,seval,rdB,ne_eq,implies_true,jaH,jai,jaQ,jbv,jbg,jbh,jbj,jbk,tq0,tq1,tq2] | simp only [hw] | apply tA | apply tB | apply tC | apply tD | apply tE | apply tF | apply tG | apply tH | apply tI | apply tJ | apply tK | apply And.intro | (intro p0; have hyp:=p0; (try simp only [HB,ne_eq,reduceCtorEq] at hyp); (try simp only [p0]); (try clear p0); try (exfalso; omega; done)) | omega
 ·have hW:apG d ⟨k,r,L,x,y,hd,mo,ti,l,[],0⟩=(1,jkq):=if_pos hyp
  rw [hW]
  refine Cos.intro [] [0,1,2,3,4,5,6,7,8,9] rfl ?_
  simp only [PB,SB,E,MB,seval,rdB,ne_eq,implies_true,jaH,jai,jaQ,jbv,jbg,jbh,jbj,jbk,tq0,tq1,tq2]
  simp [jkq,jcw]
 ·obtain ⟨hk,hr,hl,hle⟩:=jh5 (jkg hyp)
  have hl7:l.length≤1000000:=by
   have:=hsc.links
   omega
  have hl6:L.length≤1000000:=by omega
  refine TD.dfr [.ptr 1 0 0,.ptr 2 0 0] rfl rfl (fun h=>jw7 _ _ h) (fun D=>?_)
  repeat' first | exact hl6 | exact hl7 | exact hdl | simp only [PB,SB,E,MB,seval,rdB,ne_eq,implies_true,jaH,jai,jaQ,jbv,jbg,jbh,jbj,jbk,tq0,tq1,tq2] | simp only [hw] | apply tA | apply tB | apply tC | apply tD | apply tE | apply tF | apply tG | apply tH | apply tI | apply tJ | apply tK | apply And.intro | (intro p0; have hyp:=p0; (try simp only [HB,ne_eq,reduceCtorEq] at hyp); (try simp only [p0]); (try clear p0); try (exfalso; omega; done)) | omega
  generalize hW:goG d 9 0 ⟨k,r,L,x,y,hd,mo,ti,l,l,0⟩=W
  refine T.loop (fun q:Nat × Int × RS=>⟨[(4,.ptr 1 0 0),(5,.ptr 2 0 0),(6,.ptr 3 0 0),(7,.int .i64 q.2.1)],[.dead,.box [.int .i64 0,.int .i64 0,.nils,.int .i64 0,.int .i64 0,.bool false,.int .u8 0,.str (bs []),.nils],.box [.int .i64 0],.box [.ptr 4 0 0,.int .i64 q.2.2.k,.int .i64 q.2.2.r,.slice 5 0 6 q.2.2.L.length q.2.2.L.length,.int .i64 q.2.2.x,.int .i64 q.2.2.y,.bool q.2.2.hd,.int .u8 q.2.2.mo,.str q.2.2.ti,.vec .str q.2.2.l,.vec .str q.2.2.more],rdr d q.2.2.a 0,.seq .cell q.2.2.L]⟩) (fun q=>8 - q.2.1 < q.1∧(0≤q.2.1∧q.2.1≤8)∧Kept d q.2.1 q.2.2∧goG d q.1 q.2.1 q.2.2=W) (fun q=>q.1) (9,0,⟨k,r,L,x,y,hd,mo,ti,l,l,0⟩) ?_ (Cos.intro [0,1,2,6,5,3] [4] rfl (by (simp only [PB,SB,E,MB,seval,rdB,ne_eq,implies_true,jaH,jai,jaQ,jbv,jbg,jbh,jbj,jbk,tq0,tq1,tq2]; first | done | ((repeat' apply And.intro) <;> first | rfl | omega | (simp; done) | (simp; omega))))) (fun q hq=>?_)
  ·obtain ⟨hz,h16,hlk⟩:=jp8 hyp
   exact ⟨by dsimp only; omega,⟨by dsimp only; omega,by dsimp only; omega⟩,⟨⟨Nat.zero_le _,hdl,hb⟩,hz,h16,h16,hwf,fun _=>hlk,fun _=>jkg hyp,hsc.slen,hti,hsc.slen⟩,hW⟩
  ·obtain ⟨f,last,s⟩:=q
   obtain ⟨hf,⟨h0,h8⟩,hK,hg⟩:=hq
   dsimp only at hf h0 h8 hK hg
   cases f with
   | zero=>omega
   | succ f =>
    simp only [goG] at hg
    have hrd:=hK.rd
    by_cases ha:d.length≤s.a
    ·rw [if_pos ha] at hg
     subst hg
     have hsk:ScrOk s.L s.more:=⟨hK.wf,by have:=hK.sz.le; omega,by have:=hK.nm; omega,hK.sl⟩
     by_cases hR:ja0 s.k s.r s.L s.x s.y s.mo s.ti s.more=true
     ·rw [jsF (d:=d) (s:=⟨k,r,L,x,y,hd,mo,ti,l,[],0⟩) hyp hW hR]
      have hw:=hR
      repeat' first | exact hrd.1 | exact hdl | exact hsk | exact hK.st | simp only [PB,SB,E,MB,seval,rdB,ne_eq,implies_true,jaH,jai,jaQ,jbv,jbg,jbh,jbj,jbk,tq0,tq1,tq2] | simp only [hw] | refine T.seq ?_ | refine T.stm ?_ | refine T.rg ?_ | refine jac ?_ | refine jad ?_ | refine jae ?_ | refine T.cond ?_ | refine T.skip ?_ | refine T.ret ?_ | refine T.exit ?_ | refine T.block ?_ | refine Cos.intro [] [0,1,2,3,4,5,6,7,8,9] rfl ?_ | refine And.intro ?_ ?_ | (intro p0; have hyp:=p0; (try simp only [HB,ne_eq,reduceCtorEq] at hyp); (try simp only [p0]); (try clear p0); try (exfalso; omega; done)) | omega
     ·have hR2:=Bool.eq_false_iff.2 hR
      rw [jwg (d:=d) (s:=⟨k,r,L,x,y,hd,mo,ti,l,[],0⟩) hyp hW hR2]
      have hw:=hR2
      repeat' first | exact hrd.1 | exact hdl | exact hsk | exact hK.st | simp only [PB,SB,E,MB,seval,rdB,ne_eq,implies_true,jaH,jai,jaQ,jbv,jbg,jbh,jbj,jbk,tq0,tq1,tq2] | simp only [hw] | refine T.seq ?_ | refine T.stm ?_ | refine T.rg ?_ | refine jac ?_ | refine jad ?_ | refine jae ?_ | refine T.cond ?_ | refine T.skip ?_ | refine T.ret ?_ | refine T.exit ?_ | refine T.block ?_ | refine Cos.intro [] [0,1,2,3,4,5,6,7,8,9] rfl ?_ | refine And.intro ?_ ?_ | (intro p0; have hyp:=p0; (try simp only [HB,ne_eq,reduceCtorEq] at hyp); (try simp only [p0]); (try clear p0); try (exfalso; omega; done)) | omega
      all_goals (simp [jkq,jcw])
    ·rw [if_neg ha] at hg
     obtain ⟨kd,hkd⟩:∃ kd,d.getD s.a 0=kd:=⟨_,rfl⟩
     rw [hkd] at hg
     have hln:s.a < d.length:=by omega
     have hkb:0≤kd∧kd < 256:=by
      rw [← hkd]
      exact hrd.2.2 _ (jhj (d:=0) hln)
     by_cases h9:kd≤last∨8 < kd
     ·rw [if_pos h9] at hg
      subst hg
      rw [jsE (d:=d) (s:=⟨k,r,L,x,y,hd,mo,ti,l,[],0⟩) hyp hW (by decide)]
      have hw:=And.intro hkd (jng (n:=kd) (by omega))
      repeat' first | exact hrd.1 | exact hdl | exact hln | exact hb | simp only [PB,SB,E,MB,seval,rdB,ne_eq,implies_true,jaH,jai,jaQ,jbv,jbg,jbh,jbj,jbk,tq0,tq1,tq2] | simp only [hw] | apply tA | apply tB | apply tC | apply tD | apply tE | apply tF | apply tG | apply tH | apply tI | apply tJ | apply tK | apply And.intro | (intro p0; have hyp:=p0; (try simp only [HB,ne_eq,reduceCtorEq] at hyp); (try simp only [p0]); (try clear p0); try (exfalso; omega; done)) | omega
      refine ⟨_,jsD _ _ _ _,?_⟩
      repeat' first | simp only [PB,SB,E,MB,seval,rdB,ne_eq,implies_true,jaH,jai,jaQ,jbv,jbg,jbh,jbj,jbk,tq0,tq1,tq2] | simp only [hw] | refine T.seq ?_ | refine T.stm ?_ | refine T.rg ?_ | refine jac ?_ | refine jad ?_ | refine jae ?_ | refine T.cond ?_ | refine T.skip ?_ | refine T.ret ?_ | refine T.exit ?_ | refine T.block ?_ | refine Cos.intro [] [0,1,2,3,4,5,6,7,8,9] rfl ?_ | refine And.intro ?_ ?_ | (intro p0; have hyp:=p0; (try simp only [HB,ne_eq,reduceCtorEq] at hyp); (try simp only [p0]); (try clear p0); try (exfalso; omega; done)) | omega
      all_goals (simp [jkq,jcw])
     ·rw [if_neg h9] at hg
      have hK2:=hK.next hln
      obtain ⟨⟨k1,k2⟩,⟨r1,r2⟩,hLl⟩:=hK.sz
      have hnl:=hK.nl
      have hnm:=hK.nm
      have hth:RdOk d (s.a+1)∧Szd s.k s.r s.L∧(s.l.length≤16∧s.more.length≤16)∧(∀ c∈s.L,CWf c)∧(kd≤5→∀ c∈s.L,c.link≤s.l.length)∧(kd≤6→jbN s.k s.r s.L=true)∧(1≤kd∧kd≤8):=⟨hK2.rd,hK.sz,⟨hK.nl,hK.nm⟩,hK.wf,fun q=>hK.lk (by omega),fun q=>hK.gr (by omega),by omega,by omega⟩
      by_cases he:(thG d kd { s with a:=s.a+1 }).1=0
      ·rw [if_neg (by rw [he]; decide)] at hg
       have hK3:=jxx hK2 (show last < kd by omega) (by omega) he
       have hw:=And.intro hkd (And.intro (jng (n:=kd) (by omega)) he)
       repeat' first | exact hrd.1 | exact hdl | exact hln | exact hb | exact hth.1 | exact hLl | exact hK.wf _ ‹_› | exact hth.2.2.2.2.1 (by assumption) _ ‹_› | exact hth.2.2.2.2.2.1 (by assumption) | simp only [PB,SB,E,MB,seval,rdB,ne_eq,implies_true,jaH,jai,jaQ,jbv,jbg,jbh,jbj,jbk,tq0,tq1,tq2] | simp only [hw] | apply tA | apply tB | apply tC | apply tD | apply tE | apply tF | apply tG | apply tH | apply tI | apply tJ | apply tK | apply And.intro | (intro p0; have hyp:=p0; (try simp only [HB,ne_eq,reduceCtorEq] at hyp); (try simp only [p0]); (try clear p0); try (exfalso; omega; done)) | omega
       exact ⟨(f,kd,(thG d kd { s with a:=s.a+1 }).2),⟨by dsimp only; omega,⟨by dsimp only; omega,by dsimp only; omega⟩,hK3,hg⟩,Nat.lt_succ_self _,Cos.intro [0,1,2,3,4,6] [] rfl (by (simp only [PB,SB,E,MB,seval,rdB,ne_eq,implies_true,jaH,jai,jaQ,jbv,jbg,jbh,jbj,jbk,tq0,tq1,tq2]; first | done | ((repeat' apply And.intro) <;> first | rfl | omega | (simp; done) | (simp; omega))))⟩
      ·rw [if_pos he] at hg
       subst hg
       rw [jsE (d:=d) (s:=⟨k,r,L,x,y,hd,mo,ti,l,[],0⟩) hyp hW he]
       have hw:=And.intro hkd (And.intro (jng (n:=kd) (by omega)) (eq_false he))
       repeat' first | exact hrd.1 | exact hdl | exact hln | exact hb | exact hth.1 | exact hLl | exact hK.wf _ ‹_› | exact hth.2.2.2.2.1 (by assumption) _ ‹_› | exact hth.2.2.2.2.2.1 (by assumption) | simp only [PB,SB,E,MB,seval,rdB,ne_eq,implies_true,jaH,jai,jaQ,jbv,jbg,jbh,jbj,jbk,tq0,tq1,tq2] | simp only [hw] | apply tA | apply tB | apply tC | apply tD | apply tE | apply tF | apply tG | apply tH | apply tI | apply tJ | apply tK | apply And.intro | (intro p0; have hyp:=p0; (try simp only [HB,ne_eq,reduceCtorEq] at hyp); (try simp only [p0]); (try clear p0); try (exfalso; omega; done)) | omega
       refine ⟨_,jsD _ _ _ _,?_⟩
       repeat' first | simp only [PB,SB,E,MB,seval,rdB,ne_eq,implies_true,jaH,jai,jaQ,jbv,jbg,jbh,jbj,jbk,tq0,tq1,tq2] | simp only [hw] | refine T.seq ?_ | refine T.stm ?_ | refine T.rg ?_ | refine jac ?_ | refine jad ?_ | refine jae ?_ | refine T.cond ?_ | refine T.skip ?_ | refine T.ret ?_ | refine T.exit ?_ | refine T.block ?_ | refine Cos.intro [] [0,1,2,3,4,5,6,7,8,9] rfl ?_ | refine And.intro ?_ ?_ | (intro p0; have hyp:=p0; (try simp only [HB,ne_eq,reduceCtorEq] at hyp); (try simp only [p0]); (try clear p0); try (exfalso; omega; done)) | omega
       all_goals (simp [jkq,jcw]))
end
end Go.Proofs.YtcfkfgkndncanaaGreatDoor
