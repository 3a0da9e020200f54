/- Texts of this claim, merged by a program of this claim: FApply2. -/
import Derived.Test.YtcfkfgkndncanaaGreatDoorMt22
import Derived.Test.YtcfkfgkndncanaaGreatDoorMt30
import Derived.Test.YtcfkfgkndncanaaGreatDoorMt31
namespace Go.Proofs.YtcfkfgkndncanaaGreatDoor
set_option linter.unusedVariables false
set_option linter.unusedSimpArgs false
section
open Go.RowKit
set_option maxRecDepth 100000
set_option maxHeartbeats 4000000
noncomputable def msp_mrowM:MSpec:=jcD (α:=Int × Int × (List CD) × Int × Int × Bool × Int × ByteArray × (List ByteArray) × Int × Nat) (fun ⟨k,r,L,x,y,hd,mo,ti,l,v,m⟩=>([.agg [.int .i64 k,.int .i64 r,.slice 0 0 6 m m,.int .i64 x,.int .i64 y,.bool hd,.int .u8 mo,.str ti,.vec .str l],.int .i64 v],[.seq .cell L])) fun ⟨k,r,L,x,y,hd,mo,ti,l,v,m⟩=>((0≤k∧k≤100)∧(0≤v∧v≤1000)∧(v.toNat+1) * k.toNat≤m∧m≤1000000∧L.length=m,.ret (.slice 0 (v.toNat * k.toNat) 6 k.toNat k.toNat),[.seq .cell L])
theorem jb1 (k:Int) (r:Int) (L:List CD) (x:Int) (y:Int) (hd:Bool) (mo:Int) (ti:ByteArray) (l:List ByteArray) (v:Int) (m:Nat):msp_mrowM [.agg [.int .i64 k,.int .i64 r,.slice 0 0 6 m m,.int .i64 x,.int .i64 y,.bool hd,.int .u8 mo,.str ti,.vec .str l],.int .i64 v] [.seq .cell L]=some ((0≤k∧k≤100)∧(0≤v∧v≤1000)∧(v.toNat+1) * k.toNat≤m∧m≤1000000∧L.length=m,.ret (.slice 0 (v.toNat * k.toNat) 6 k.toNat k.toNat),[.seq .cell L]):=jbd (α:=Int × Int × (List CD) × Int × Int × Bool × Int × ByteArray × (List ByteArray) × Int × Nat) _ (fun ⟨k,r,L,x,y,hd,mo,ti,l,v,m⟩ ⟨k',r',L',x',y',hd',mo',ti',l',v',m'⟩ h=>by first | rfl | simpa [CP,jaP] using h | (simp [CP,jaP] at h ⊢; grind)) (k,r,L,x,y,hd,mo,ti,l,v,m)
theorem juc:MutF Tryz.prog E0 105 msp_mrowM:=MutF.of fun ⟨k,r,L,x,y,hd,mo,ti,l,v,m⟩ hG=>TF.intro (V:=(VV [] GOk.nil 17 1)) jeg rfl rfl (by
 dsimp only at hG ⊢
 obtain ⟨hk,hv,hl,hm,hL⟩:=hG
 obtain ⟨k,rfl⟩:∃ n:Nat,k=n:=⟨k.toNat,by omega⟩
 obtain ⟨v,rfl⟩:∃ n:Nat,v=n:=⟨v.toNat,by omega⟩
 simp only [Int.toNat_natCast] at hl ⊢
 have hmf:=jfU hl
 have hm2:(v+1) * k=v * k+k:=by rw [Nat.add_mul]; omega
 have hvk:v * k≤1000000:=by omega
 repeat' first | simp only [SB,E,MB,seval,rdB,ne_eq,implies_true,tq0,tq1,tq2] | refine T.seq ?_ | refine T.stm ?_ | refine T.rg ?_ | refine jac ?_ | refine jad ?_ | refine jae ?_ | refine T.cond ?_ | refine T.skip ?_ | refine T.ret ?_ | refine T.exit ?_ | refine T.block ?_ | refine Cos.intro [0] [] rfl ?_ | refine And.intro ?_ ?_ | (intro p0; have hyp:=p0; (try simp only [HB,ne_eq,reduceCtorEq] at hyp); (try simp only [p0]); (try clear p0); try (exfalso; omega; done)) | omega)
theorem jj2 (d:List Int) (a:Nat) (m:Int):(jek d a m).length≤d.length:=by
 unfold jek
 split
 ·rw [List.length_take,List.length_drop]
  omega
 ·exact Nat.zero_le _
theorem jo0 {d:List Int} {a:Nat} {m:Int} (h:a≤d.length):a+jel d a m≤d.length:=by
 have:=jbx h
 unfold jel
 split
 ·rename_i q
  by_cases q1:varE d a=0
  ·by_cases q2:m < varV d a
   ·simp [jdq,q1,q2] at q
   ·by_cases q3:((d.length - (a+varU d a):Nat):Int) < varV d a
    ·simp [jdq,q1,q2,q3] at q
    ·omega
  ·simp [jdq,q1] at q
 ·omega
noncomputable def jj3:MSpec:=jcD (α:=Int × Int × (List CD) × Int × Int × Bool × Int × ByteArray × (List ByteArray) × (List ByteArray) × (List Int) × Nat × Int) (fun ⟨k,r,L,x,y,hd,mo,ti,l,m,d,a,e⟩=>([.ptr 0 0 0],[.box [.ptr 1 0 0,.int .i64 k,.int .i64 r,.slice 2 0 6 L.length L.length,.int .i64 x,.int .i64 y,.bool hd,.int .u8 mo,.str ti,.vec .str l,.slice 3 0 1 m.length m.length],rdr d a e,.seq .cell L,.seq .str m])) fun ⟨k,r,L,x,y,hd,mo,ti,l,m,d,a,e⟩=>(True,.ret (.tup []),[.box [.ptr 1 0 0,.int .i64 k,.int .i64 r,.slice 2 0 6 L.length L.length,.int .i64 x,.int .i64 y,.bool hd,.int .u8 mo,.str ti,.vec .str l,.slice 3 0 1 m.length m.length],rdr d a e,.seq .cell L,.seq .str m])
theorem jj4:∀ (x y:Int × Int × (List CD) × Int × Int × Bool × Int × ByteArray × (List ByteArray) × (List ByteArray) × (List Int) × Nat × Int),(fun (⟨k,r,L,x,y,hd,mo,ti,l,m,d,a,e⟩:Int × Int × (List CD) × Int × Int × Bool × Int × ByteArray × (List ByteArray) × (List ByteArray) × (List Int) × Nat × Int)=>(([.ptr 0 0 0],[.box [.ptr 1 0 0,.int .i64 k,.int .i64 r,.slice 2 0 6 L.length L.length,.int .i64 x,.int .i64 y,.bool hd,.int .u8 mo,.str ti,.vec .str l,.slice 3 0 1 m.length m.length],rdr d a e,.seq .cell L,.seq .str m]):List CV × KH)) x=(fun (⟨k,r,L,x,y,hd,mo,ti,l,m,d,a,e⟩:Int × Int × (List CD) × Int × Int × Bool × Int × ByteArray × (List ByteArray) × (List ByteArray) × (List Int) × Nat × Int)=>(([.ptr 0 0 0],[.box [.ptr 1 0 0,.int .i64 k,.int .i64 r,.slice 2 0 6 L.length L.length,.int .i64 x,.int .i64 y,.bool hd,.int .u8 mo,.str ti,.vec .str l,.slice 3 0 1 m.length m.length],rdr d a e,.seq .cell L,.seq .str m]):List CV × KH)) y→x=y:=fun ⟨k,r,L,x,y,hd,mo,ti,l,m,d,a,e⟩ ⟨k',r',L',x',y',hd',mo',ti',l',m',d',a',e'⟩ h=>by first | rfl | simpa [CP,jaP] using h | (simp [CP,jaP] at h ⊢; grind)
theorem jbO (k:Int) (r:Int) (L:List CD) (x:Int) (y:Int) (hd:Bool) (mo:Int) (ti:ByteArray) (l:List ByteArray) (m:List ByteArray) (d:List Int) (a:Nat) (e:Int):jj3 [.ptr 0 0 0] [.box [.ptr 1 0 0,.int .i64 k,.int .i64 r,.slice 2 0 6 L.length L.length,.int .i64 x,.int .i64 y,.bool hd,.int .u8 mo,.str ti,.vec .str l,.slice 3 0 1 m.length m.length],rdr d a e,.seq .cell L,.seq .str m]=some (True,.ret (.tup []),[.box [.ptr 1 0 0,.int .i64 k,.int .i64 r,.slice 2 0 6 L.length L.length,.int .i64 x,.int .i64 y,.bool hd,.int .u8 mo,.str ti,.vec .str l,.slice 3 0 1 m.length m.length],rdr d a e,.seq .cell L,.seq .str m]):=jbd (α:=Int × Int × (List CD) × Int × Int × Bool × Int × ByteArray × (List ByteArray) × (List ByteArray) × (List Int) × Nat × Int) _ jj4 (k,r,L,x,y,hd,mo,ti,l,m,d,a,e)
noncomputable def esp_must3:ESpec:=jix (α:=Int × Int × (List CD) × Int × Int × Bool × Int × ByteArray × (List ByteArray) × (List ByteArray) × (List Int) × Nat × Int) (fun ⟨k,r,L,x,y,hd,mo,ti,l,m,d,a,e⟩=>([.ptr 0 0 0],[.box [.ptr 1 0 0,.int .i64 k,.int .i64 r,.slice 2 0 6 L.length L.length,.int .i64 x,.int .i64 y,.bool hd,.int .u8 mo,.str ti,.vec .str l,.slice 3 0 1 m.length m.length],rdr d a e,.seq .cell L,.seq .str m])) fun ⟨k,r,L,x,y,hd,mo,ti,l,m,d,a,e⟩=>e
theorem jbP (k:Int) (r:Int) (L:List CD) (x:Int) (y:Int) (hd:Bool) (mo:Int) (ti:ByteArray) (l:List ByteArray) (m:List ByteArray) (d:List Int) (a:Nat) (e:Int):esp_must3 [.ptr 0 0 0] [.box [.ptr 1 0 0,.int .i64 k,.int .i64 r,.slice 2 0 6 L.length L.length,.int .i64 x,.int .i64 y,.bool hd,.int .u8 mo,.str ti,.vec .str l,.slice 3 0 1 m.length m.length],rdr d a e,.seq .cell L,.seq .str m]=e:=jdi (α:=Int × Int × (List CD) × Int × Int × Bool × Int × ByteArray × (List ByteArray) × (List ByteArray) × (List Int) × Nat × Int) _ jj4 (k,r,L,x,y,hd,mo,ti,l,m,d,a,e)
theorem jud:MutP Tryz.prog E0 61 jj3 esp_must3:=MutP.of jj4 fun ⟨k,r,L,x,y,hd,mo,ti,l,m,d,a,e⟩ hG=>TF.intro (V:=(VV [(101,conM msp_werr)] (.cons (jaa jdb) (MutF.soundM jrn) GOk.nil) 12 4)) jbo rfl rfl (by
 dsimp only at hG ⊢
 by_cases he:e=0
 ·rw [jci he,jcj he]
  have hw:=he
  repeat' first | simp only [PB,SB,E,MB,seval,rdB,ne_eq,implies_true,jfd,tq0,tq1,tq2] | simp only [hw] | refine T.seq ?_ | refine T.stm ?_ | refine T.rg ?_ | refine jac ?_ | refine jad ?_ | refine jae ?_ | refine T.cond ?_ | refine T.skip ?_ | refine T.ret ?_ | refine T.exit ?_ | refine T.block ?_ | refine Cos.intro [0,1,2,3] [] rfl ?_ | refine And.intro ?_ ?_ | (intro p0; have hyp:=p0; (try simp only [HB,ne_eq,reduceCtorEq] at hyp); (try simp only [p0]); (try clear p0); try (exfalso; omega; done)) | omega
 ·rw [ja1 he,ja2 he]
  have hw:=eq_false he
  repeat' first | simp only [PB,SB,E,MB,seval,rdB,ne_eq,implies_true,jfd,tq0,tq1,tq2] | simp only [hw] | refine T.seq ?_ | refine T.stm ?_ | refine T.rg ?_ | refine jac ?_ | refine jad ?_ | refine jae ?_ | refine T.cond ?_ | refine T.skip ?_ | refine T.ret ?_ | refine T.exit ?_ | refine T.block ?_ | refine Cos.err (Cos.intro [0,1,2,3] [] rfl ?_) | refine And.intro ?_ ?_ | (intro p0; have hyp:=p0; (try simp only [HB,ne_eq,reduceCtorEq] at hyp); (try simp only [p0]); (try clear p0); try (exfalso; omega; done)) | omega)
noncomputable def jh6:MSpec:=jcD (α:=Int × Int × (List CD) × Int × Int × Bool × Int × ByteArray × (List ByteArray) × (List ByteArray) × (List Int) × Nat) (fun ⟨k,r,L,x,y,hd,mo,ti,l,more,d,a⟩=>([.ptr 0 0 0],[RB 2 k r L.length x y hd mo ti l more,rdr d a 0,.seq .cell L])) fun ⟨k,r,L,x,y,hd,mo,ti,l,more,d,a⟩=>(RdOk d a∧(L.length≤60000∧l.length≤16)∧(∀ c∈L,CWf c)∧(∀ c∈L,c.link≤l.length),.ret (.tup []),[RB 3 k r L.length x y hd mo ti l (lkG d a l).2.2,rdr d (lkG d a l).2.1 0,.dead,.seq .cell (L.map (ulf l (lkG d a l).2.2))])
theorem jh7:∀ (x y:Int × Int × (List CD) × Int × Int × Bool × Int × ByteArray × (List ByteArray) × (List ByteArray) × (List Int) × Nat),(fun (⟨k,r,L,x,y,hd,mo,ti,l,more,d,a⟩:Int × Int × (List CD) × Int × Int × Bool × Int × ByteArray × (List ByteArray) × (List ByteArray) × (List Int) × Nat)=>(([.ptr 0 0 0],[RB 2 k r L.length x y hd mo ti l more,rdr d a 0,.seq .cell L]):List CV × KH)) x=(fun (⟨k,r,L,x,y,hd,mo,ti,l,more,d,a⟩:Int × Int × (List CD) × Int × Int × Bool × Int × ByteArray × (List ByteArray) × (List ByteArray) × (List Int) × Nat)=>(([.ptr 0 0 0],[RB 2 k r L.length x y hd mo ti l more,rdr d a 0,.seq .cell L]):List CV × KH)) y→x=y:=fun ⟨k,r,L,x,y,hd,mo,ti,l,more,d,a⟩ ⟨k',r',L',x',y',hd',mo',ti',l',more',d',a'⟩ h=>by first | rfl | simpa [CP,jaP] using h | (simp [CP,jaP] at h ⊢; grind)
theorem jaE (k:Int) (r:Int) (L:List CD) (x:Int) (y:Int) (hd:Bool) (mo:Int) (ti:ByteArray) (l:List ByteArray) (more:List ByteArray) (d:List Int) (a:Nat):jh6 [.ptr 0 0 0] [RB 2 k r L.length x y hd mo ti l more,rdr d a 0,.seq .cell L]=some (RdOk d a∧(L.length≤60000∧l.length≤16)∧(∀ c∈L,CWf c)∧(∀ c∈L,c.link≤l.length),.ret (.tup []),[RB 3 k r L.length x y hd mo ti l (lkG d a l).2.2,rdr d (lkG d a l).2.1 0,.dead,.seq .cell (L.map (ulf l (lkG d a l).2.2))]):=jbd (α:=Int × Int × (List CD) × Int × Int × Bool × Int × ByteArray × (List ByteArray) × (List ByteArray) × (List Int) × Nat) _ jh7 (k,r,L,x,y,hd,mo,ti,l,more,d,a)
noncomputable def esp_rlinks:ESpec:=jix (α:=Int × Int × (List CD) × Int × Int × Bool × Int × ByteArray × (List ByteArray) × (List ByteArray) × (List Int) × Nat) (fun ⟨k,r,L,x,y,hd,mo,ti,l,more,d,a⟩=>([.ptr 0 0 0],[RB 2 k r L.length x y hd mo ti l more,rdr d a 0,.seq .cell L])) fun ⟨k,r,L,x,y,hd,mo,ti,l,more,d,a⟩=>(lkG d a l).1
theorem jaF (k:Int) (r:Int) (L:List CD) (x:Int) (y:Int) (hd:Bool) (mo:Int) (ti:ByteArray) (l:List ByteArray) (more:List ByteArray) (d:List Int) (a:Nat):esp_rlinks [.ptr 0 0 0] [RB 2 k r L.length x y hd mo ti l more,rdr d a 0,.seq .cell L]=(lkG d a l).1:=jdi (α:=Int × Int × (List CD) × Int × Int × Bool × Int × ByteArray × (List ByteArray) × (List ByteArray) × (List Int) × Nat) _ jh7 (k,r,L,x,y,hd,mo,ti,l,more,d,a)
theorem jss:MutP Tryz.prog E0 64 jh6 esp_rlinks:=MutP.of jh7 fun ⟨k,r,L,x,y,hd,mo,ti,l,more,d,a⟩ hG=>TF.intro (V:=(VV [(62,conP jfo esp_upto),(25,conT [.sl .str] sp_sclone),(63,conM msp_wtext),(61,conP jj3 esp_must3),(99,conF [.any] sp_lmay),(85,conT [.agg [.any,.any,.sl .cell,.any,.any,.any,.any,.any,.sl .str],.sl .str] sp_under)] (.cons (jaa jbp) (MutP.soundP jjF) (.cons (jaa jcp) (Fresh.soundT jmP) (.cons (jaa jcV) (MutF.soundM joA) (.cons (jaa jbo) (MutP.soundP jud) (.cons (jaa jee) (Fresh.soundF jnN) (.cons (jaa jdX) (Fresh.soundT joZ) GOk.nil)))))) 68 3)) jdr rfl rfl (by
 dsimp only at hG ⊢
 obtain ⟨hr,⟨hL,hl⟩,hwf,hlk⟩:=hG
 have hr0:=hr
 obtain ⟨h1,h2,h3⟩:=hr
 have hv:=jaR h3 a
 have hr1:RdOk d (a+varU d a):=⟨jbx h1,h2,h3⟩
 have hv2:=jaR h3 (a+varU d a)
 have hr2:RdOk d (a+varU d a+varU d (a+varU d a)):=⟨jbx (jbx h1),h2,h3⟩
 by_cases e1:upE d a l.length=0
 ·have u1:=jcf e1
  by_cases e2:upE d (a+varU d a) (16 - varV d a)=0
  ·have u2:=jcf e2
   have hW:lkG d a l=lnkG d (varV d (a+varU d a)).toNat (a+varU d a+varU d (a+varU d a)) (l.take (varV d a).toNat):=by rw [lkG,if_neg (by simp [e1]),if_neg (by simp [e2])]
   rw [hW]
   generalize hWg:lnkG d (varV d (a+varU d a)).toNat (a+varU d a+varU d (a+varU d a)) (l.take (varV d a).toNat)=W
   have hw:=And.intro e1 e2
   have htk:(l.take (varV d a).toNat).length=(varV d a).toNat:=by rw [List.length_take]; omega
   have htk2:(l.take (varV d a).toNat).length≤1000000:=by omega
   have hcap:(l.take (varV d a).toNat).length+(varV d (a+varU d a)).toNat≤16:=by omega
   repeat' first | exact hr0 | exact hr1 | exact htk2 | simp only [PB,SB,E,MB,seval,rdB,ne_eq,implies_true,jaf,jag,jaQ,jaq,jbO,jbP,jaV,jak,tq0,tq1,tq2] | simp only [hw] | simp only [hw2] | apply tA | apply tB | apply tC | apply tD | apply tE | apply tF | apply tG | apply tH | apply tI | apply tJ | apply tK | apply And.intro | (intro p0; have hyp:=p0; (try simp only [HB,ne_eq,reduceCtorEq] at hyp); (try simp only [p0]); (try clear p0); try (exfalso; omega; done)) | omega
   refine T.loop (fun q:Nat × Nat × List ByteArray=>⟨[(0,.ptr 0 0 0),(28,.int .i64 (varV d (a+varU d a))),(29,.int .i64 q.1)],[.box [.ptr 1 0 0,.int .i64 k,.int .i64 r,.slice 2 0 6 L.length L.length,.int .i64 x,.int .i64 y,.bool hd,.int .u8 mo,.str ti,.vec .str l,.slice 3 0 1 q.2.2.length q.2.2.length],rdr d q.2.1 0,.seq .cell L,.seq .str q.2.2]⟩) (fun q=>q.1≤(varV d (a+varU d a)).toNat∧RdOk d q.2.1∧q.2.2.length+((varV d (a+varU d a)).toNat - q.1)≤16∧lnkG d ((varV d (a+varU d a)).toNat - q.1) q.2.1 q.2.2=W) (fun q=>(varV d (a+varU d a)).toNat - q.1) (0,a+varU d a+varU d (a+varU d a),l.take (varV d a).toNat) ⟨by omega,hr2,by omega,hWg⟩ (Cos.intro [0,1,2,3] [] rfl (by (simp only [PB,SB,E,MB,seval,rdB,ne_eq,implies_true,jaf,jag,jaQ,jaq,jbO,jbP,jaV,jak,tq0,tq1,tq2]; first | done | ((repeat' apply And.intro) <;> first | rfl | omega | (simp; done) | (simp; omega))))) (fun ⟨i,a',m⟩ ⟨hi,hr',hm,hg⟩=>?_)
   dsimp only at hi hm hg hr'
   obtain ⟨g1,g2,g3⟩:=hr'
   by_cases hin:i < (varV d (a+varU d a)).toNat
   ·obtain ⟨n',hn'⟩:∃ n',(varV d (a+varU d a)).toNat - i=n'+1:=⟨(varV d (a+varU d a)).toNat - i - 1,by omega⟩
    rw [hn'] at hg
    simp only [lnkG] at hg
    have hsl:SLen (ja6 (jek d a' 64)):=by
     have:=jj2 d a' 64
     simp only [SLen,jdv]
     omega
    by_cases t1:jdq d a' 64=0
    ·rw [if_neg (by simp [t1])] at hg
     cases t2:jcK (ja6 (jek d a' 64))
     ·rw [if_pos t2] at hg
      subst hg
      rw [ja1 (by decide),ja2 (by decide)]
      have hw2:=And.intro t1 t2
      repeat' first | exact g3 _ ‹_› | exact hsl | simp only [PB,SB,E,MB,seval,rdB,ne_eq,implies_true,jaf,jag,jaQ,jaq,jbO,jbP,jaV,jak,tq0,tq1,tq2] | simp only [hw] | simp only [hw2] | refine T.seq ?_ | refine T.stm ?_ | refine T.rg ?_ | refine jac ?_ | refine jad ?_ | refine jae ?_ | refine T.cond ?_ | refine T.skip ?_ | refine T.ret ?_ | refine T.exit ?_ | refine T.block ?_ | refine Cos.err (Cos.intro [0,1,2] [] rfl ?_) | refine And.intro ?_ ?_ | (intro p0; have hyp:=p0; (try simp only [HB,ne_eq,reduceCtorEq] at hyp); (try simp only [p0]); (try clear p0); try (exfalso; omega; done)) | omega
     ·rw [if_neg (by simp [t2])] at hg
      have hw2:=And.intro t1 t2
      have hml:m.length≤1073741823:=by omega
      repeat' first | exact g3 _ ‹_› | exact hsl | exact hml | simp only [PB,SB,E,MB,seval,rdB,ne_eq,implies_true,jaf,jag,jaQ,jaq,jbO,jbP,jaV,jak,tq0,tq1,tq2] | simp only [hw] | simp only [hw2] | apply tA | apply tB | apply tC | apply tD | apply tE | apply tF | apply tG | apply tH | apply tI | apply tJ | apply tK | apply And.intro | (intro p0; have hyp:=p0; (try simp only [HB,ne_eq,reduceCtorEq] at hyp); (try simp only [p0]); (try clear p0); try (exfalso; omega; done)) | omega
      exact ⟨(i+1,a'+jel d a' 64,m++[ja6 (jek d a' 64)]),⟨by omega,⟨jo0 g1,g2,g3⟩,by simp only [List.length_append,List.length_cons,List.length_nil]; omega,(show (varV d (a+varU d a)).toNat - (i+1)=n' by omega) ▸ hg⟩,by simp only; omega,Cos.intro [0,1,2,5] [] rfl (by (simp only [PB,SB,E,MB,seval,rdB,ne_eq,implies_true,jaf,jag,jaQ,jaq,jbO,jbP,jaV,jak,tq0,tq1,tq2]; first | done | ((repeat' apply And.intro) <;> first | rfl | omega | (simp; done) | (simp; omega))))⟩
    ·rw [if_pos t1] at hg
     subst hg
     rw [ja1 t1,ja2 t1]
     have hw2:=eq_false t1
     repeat' first | exact g3 _ ‹_› | simp only [PB,SB,E,MB,seval,rdB,ne_eq,implies_true,jaf,jag,jaQ,jaq,jbO,jbP,jaV,jak,tq0,tq1,tq2] | simp only [hw] | simp only [hw2] | refine T.seq ?_ | refine T.stm ?_ | refine T.rg ?_ | refine jac ?_ | refine jad ?_ | refine jae ?_ | refine T.cond ?_ | refine T.skip ?_ | refine T.ret ?_ | refine T.exit ?_ | refine T.block ?_ | refine Cos.err (Cos.intro [0,1,2] [] rfl ?_) | refine And.intro ?_ ?_ | (intro p0; have hyp:=p0; (try simp only [HB,ne_eq,reduceCtorEq] at hyp); (try simp only [p0]); (try clear p0); try (exfalso; omega; done)) | omega
   ·rw [show (varV d (a+varU d a)).toNat - i=0 by omega] at hg
    simp only [lnkG] at hg
    subst hg
    rw [jci rfl,jcj rfl]
    have hlm:(L.map (ulf l m)).length=L.length:=by simp
    have hm6:m.length≤60000:=by omega
    have hw2:=hlm
    repeat' first | exact hwf | exact hlk | exact hm6 | exact hlm | simp only [PB,SB,E,MB,seval,rdB,ne_eq,implies_true,jaf,jag,jaQ,jaq,jbO,jbP,jaV,jak,tq0,tq1,tq2] | simp only [hw] | simp only [hw2] | refine T.seq ?_ | refine T.stm ?_ | refine T.rg ?_ | refine jac ?_ | refine jad ?_ | refine jae ?_ | refine T.cond ?_ | refine T.skip ?_ | refine T.ret ?_ | refine T.exit ?_ | refine T.block ?_ | refine Cos.intro [0,1,2,4] [3] rfl ?_ | refine And.intro ?_ ?_ | (intro p0; have hyp:=p0; (try simp only [HB,ne_eq,reduceCtorEq] at hyp); (try simp only [p0]); (try clear p0); try (exfalso; omega; done)) | omega
  ·have hW:lkG d a l=(upE d (a+varU d a) (16 - varV d a),0,[]):=by rw [lkG,if_neg (by simp [e1]),if_pos e2]
   rw [hW,ja1 e2,ja2 e2]
   have hw:=And.intro e1 (eq_false e2)
   repeat' first | exact hr0 | exact hr1 | simp only [PB,SB,E,MB,seval,rdB,ne_eq,implies_true,jaf,jag,jaQ,jaq,jbO,jbP,jaV,jak,tq0,tq1,tq2] | simp only [hw] | simp only [hw2] | refine T.seq ?_ | refine T.stm ?_ | refine T.rg ?_ | refine jac ?_ | refine jad ?_ | refine jae ?_ | refine T.cond ?_ | refine T.skip ?_ | refine T.ret ?_ | refine T.exit ?_ | refine T.block ?_ | refine Cos.err (Cos.intro [0,1,2] [] rfl ?_) | refine And.intro ?_ ?_ | (intro p0; have hyp:=p0; (try simp only [HB,ne_eq,reduceCtorEq] at hyp); (try simp only [p0]); (try clear p0); try (exfalso; omega; done)) | omega
 ·have hW:lkG d a l=(upE d a l.length,0,[]):=by rw [lkG,if_pos e1]
  rw [hW,ja1 e1,ja2 e1]
  have hw:=eq_false e1
  repeat' first | exact hr0 | simp only [PB,SB,E,MB,seval,rdB,ne_eq,implies_true,jaf,jag,jaQ,jaq,jbO,jbP,jaV,jak,tq0,tq1,tq2] | simp only [hw] | simp only [hw2] | refine T.seq ?_ | refine T.stm ?_ | refine T.rg ?_ | refine jac ?_ | refine jad ?_ | refine jae ?_ | refine T.cond ?_ | refine T.skip ?_ | refine T.ret ?_ | refine T.exit ?_ | refine T.block ?_ | refine Cos.err (Cos.intro [0,1,2] [] rfl ?_) | refine And.intro ?_ ?_ | (intro p0; have hyp:=p0; (try simp only [HB,ne_eq,reduceCtorEq] at hyp); (try simp only [p0]); (try clear p0); try (exfalso; omega; done)) | omega)
end
end Go.Proofs.YtcfkfgkndncanaaGreatDoor
