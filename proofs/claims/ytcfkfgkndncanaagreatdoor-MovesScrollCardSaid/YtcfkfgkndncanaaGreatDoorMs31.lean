/- Texts of this claim, merged by a program of this claim: FApply2. -/
import Derived.Test.YtcfkfgkndncanaaGreatDoorMs21
import Derived.Test.YtcfkfgkndncanaaGreatDoorMs29
import Derived.Test.YtcfkfgkndncanaaGreatDoorMs30
namespace Go.Proofs.YtcfkfgkndncanaaGreatDoor
set_option linter.unusedVariables false
set_option linter.unusedSimpArgs false
section
open Go.RowKit
set_option maxRecDepth 100000
set_option maxHeartbeats 4000000
abbrev jqW (k:Int) (r:Int) (L:List CD) (x:Int) (y:Int) (hd:Bool) (mo:Int) (ti:ByteArray) (l:List ByteArray) (v:Int) (m:Nat):List CV:=[.agg [.int .i64 k,.int .i64 r,.slice 0 0 6 m m,.int .i64 x,.int .i64 y,.bool hd,.int .u8 mo,.str ti,.vec .str l],.int .i64 v]
abbrev jqX (k:Int) (r:Int) (L:List CD) (x:Int) (y:Int) (hd:Bool) (mo:Int) (ti:ByteArray) (l:List ByteArray) (v:Int) (m:Nat):KH:=[.seq .cell L]
abbrev jqY (k:Int) (r:Int) (L:List CD) (x:Int) (y:Int) (hd:Bool) (mo:Int) (ti:ByteArray) (l:List ByteArray) (v:Int) (m:Nat):Prop×Res×KH:=((0≤k∧k≤100)∧(0≤v∧v≤1000)∧(v.toNat+1)*k.toNat≤m∧m≤1000000∧L.length=m,.ret (.slice 0 (v.toNat*k.toNat) 6 k.toNat k.toNat),[.seq .cell L])
noncomputable def msp_mrowM:MSpec:=jcS (α:=Int×Int×(List CD)×Int×Int×Bool×Int×ByteArray×(List ByteArray)×Int×Nat) (fun⟨k,r,L,x,y,hd,mo,ti,l,v,m⟩=>(jqW k r L x y hd mo ti l v m,jqX k r L x y hd mo ti l v m)) fun⟨k,r,L,x,y,hd,mo,ti,l,v,m⟩=>jqY k r L x y hd mo ti l v m
theorem jb9 (k:Int) (r:Int) (L:List CD) (x:Int) (y:Int) (hd:Bool) (mo:Int) (ti:ByteArray) (l:List ByteArray) (v:Int) (m:Nat):msp_mrowM (jqW k r L x y hd mo ti l v m) (jqX k r L x y hd mo ti l v m)=some (jqY k r L x y hd mo ti l v m):=jbd _ injM (k,r,L,x,y,hd,mo,ti,l,v,m)
theorem jyU:MutF Tryz.prog E0 105 msp_mrowM:=MutF.of fun⟨k,r,L,x,y,hd,mo,ti,l,v,m⟩ hG=>TF.intro (V:=(VV [] GOk.nil 17 1)) jeC rfl rfl (by
 dsimp only[jqW,jqX,jqY]at hG ⊢
 obtain⟨hk,hv,hl,hm,hL⟩:=hG
 obtain⟨k,rfl⟩:∃n:Nat,k=n:=⟨k.toNat,by omega⟩
 obtain⟨v,rfl⟩:∃n:Nat,v=n:=⟨v.toNat,by omega⟩
 simp only[Int.toNat_natCast]at hl ⊢
 have hmf:=jfo hl
 have hm2:(v+1)*k=v*k+k:=by rw[Nat.add_mul];omega
 have hvk:v*k≤1000000:=by omega
 repeat' first|simp only[SA,MB,seval,rdB,tq0,tq1,tq2]|refine tT ?_|refine Cos.intro [0] [] rfl ?_|refine And.intro ?_ ?_|exact tC|(refine tI ?_;intro hyp)|intro hyp0|omega)
theorem jlc (d:List Int) (a:Nat) (m:Int):(je2 d a m).length≤d.length:=by
 unfold je2
 split
 ·rw[List.length_take,List.length_drop]
  omega
 ·exact Nat.zero_le _
theorem jst {d:List Int}{a:Nat}{m:Int}(h:a≤d.length):a+je3 d a m≤d.length:=by
 have:=jbz h
 unfold je3
 split
 ·rename_i q
  by_cases q1:varE d a=0
  ·by_cases q2:m<varV d a
   ·simp[jd0,q1,q2]at q
   ·by_cases q3:((d.length-(a+varU d a):Nat):Int)<varV d a
    ·simp[jd0,q1,q2,q3]at q
    ·omega
  ·simp[jd0,q1]at q
 ·omega
abbrev jiL (k:Int) (r:Int) (L:List CD) (x:Int) (y:Int) (hd:Bool) (mo:Int) (ti:ByteArray) (l:List ByteArray) (m:List ByteArray) (d:List Int) (a:Nat) (e:Int):List CV:=[.ptr 0 0 0]
abbrev jiM (k:Int) (r:Int) (L:List CD) (x:Int) (y:Int) (hd:Bool) (mo:Int) (ti:ByteArray) (l:List ByteArray) (m:List ByteArray) (d:List Int) (a:Nat) (e:Int):KH:=[.box [.ptr 1 0 0,.int .i64 k,.int .i64 r,.slice 2 0 6 L.length L.length,.int .i64 x,.int .i64 y,.bool hd,.int .u8 mo,.str ti,.vec .str l,.slice 3 0 1 m.length m.length],rdr d a e,.seq .cell L,.seq .str m]
abbrev jqZ (k:Int) (r:Int) (L:List CD) (x:Int) (y:Int) (hd:Bool) (mo:Int) (ti:ByteArray) (l:List ByteArray) (m:List ByteArray) (d:List Int) (a:Nat) (e:Int):Prop×Res×KH:=(True,.ret (.tup []),[.box [.ptr 1 0 0,.int .i64 k,.int .i64 r,.slice 2 0 6 L.length L.length,.int .i64 x,.int .i64 y,.bool hd,.int .u8 mo,.str ti,.vec .str l,.slice 3 0 1 m.length m.length],rdr d a e,.seq .cell L,.seq .str m])
noncomputable def jld:MSpec:=jcS (α:=Int×Int×(List CD)×Int×Int×Bool×Int×ByteArray×(List ByteArray)×(List ByteArray)×(List Int)×Nat×Int) (fun⟨k,r,L,x,y,hd,mo,ti,l,m,d,a,e⟩=>(jiL k r L x y hd mo ti l m d a e,jiM k r L x y hd mo ti l m d a e)) fun⟨k,r,L,x,y,hd,mo,ti,l,m,d,a,e⟩=>jqZ k r L x y hd mo ti l m d a e
noncomputable def esp_must3:ESpec:=jjo (α:=Int×Int×(List CD)×Int×Int×Bool×Int×ByteArray×(List ByteArray)×(List ByteArray)×(List Int)×Nat×Int) (fun⟨k,r,L,x,y,hd,mo,ti,l,m,d,a,e⟩=>(jiL k r L x y hd mo ti l m d a e,jiM k r L x y hd mo ti l m d a e)) fun⟨k,r,L,x,y,hd,mo,ti,l,m,d,a,e⟩=>e
theorem jle:InjM (α:=Int×Int×(List CD)×Int×Int×Bool×Int×ByteArray×(List ByteArray)×(List ByteArray)×(List Int)×Nat×Int) (fun⟨k,r,L,x,y,hd,mo,ti,l,m,d,a,e⟩=>(jiL k r L x y hd mo ti l m d a e,jiM k r L x y hd mo ti l m d a e)):=injM
theorem jbU (k:Int) (r:Int) (L:List CD) (x:Int) (y:Int) (hd:Bool) (mo:Int) (ti:ByteArray) (l:List ByteArray) (m:List ByteArray) (d:List Int) (a:Nat) (e:Int):jld (jiL k r L x y hd mo ti l m d a e) (jiM k r L x y hd mo ti l m d a e)=some (jqZ k r L x y hd mo ti l m d a e):=jbd _ jle (k,r,L,x,y,hd,mo,ti,l,m,d,a,e)
theorem jbV (k:Int) (r:Int) (L:List CD) (x:Int) (y:Int) (hd:Bool) (mo:Int) (ti:ByteArray) (l:List ByteArray) (m:List ByteArray) (d:List Int) (a:Nat) (e:Int):esp_must3 (jiL k r L x y hd mo ti l m d a e) (jiM k r L x y hd mo ti l m d a e)=e:=jdC _ jle (k,r,L,x,y,hd,mo,ti,l,m,d,a,e)
theorem jyV:MutP Tryz.prog E0 61 jld esp_must3:=MutP.of jle fun⟨k,r,L,x,y,hd,mo,ti,l,m,d,a,e⟩ hG=>TF.intro (V:=(VV [(101,conM msp_werr)] (.cons (jaa jdq) (MutF.soundM ju1) GOk.nil) 12 4)) jbr rfl rfl (by
 dsimp only[jiL,jiM,jqZ]at hG ⊢
 by_cases he:e=0
 ·rw[jcv he,jcw he]
  have hw:=he
  repeat' first|simp only[PB,SA,MB,seval,rdB,jfJ,tq0,tq1,tq2]|simp only[hw]|refine tT ?_|refine Cos.intro [0,1,2,3] [] rfl ?_|refine And.intro ?_ ?_|exact tC|(refine tI ?_;intro hyp)|intro hyp0|omega
 ·rw[ja0 he,ja1 he]
  have hw:=eq_false he
  repeat' first|simp only[PB,SA,MB,seval,rdB,jfJ,tq0,tq1,tq2]|simp only[hw]|refine tT ?_|refine Cos.err (Cos.intro [0,1,2,3] [] rfl ?_)|refine And.intro ?_ ?_|exact tC|(refine tI ?_;intro hyp)|intro hyp0|omega)
abbrev jgJ (k:Int) (r:Int) (L:List CD) (x:Int) (y:Int) (hd:Bool) (mo:Int) (ti:ByteArray) (l:List ByteArray) (more:List ByteArray) (d:List Int) (a:Nat):List CV:=[.ptr 0 0 0]
abbrev jgK (k:Int) (r:Int) (L:List CD) (x:Int) (y:Int) (hd:Bool) (mo:Int) (ti:ByteArray) (l:List ByteArray) (more:List ByteArray) (d:List Int) (a:Nat):KH:=[RB 2 k r L.length x y hd mo ti l more,rdr d a 0,.seq .cell L]
abbrev jn1 (k:Int) (r:Int) (L:List CD) (x:Int) (y:Int) (hd:Bool) (mo:Int) (ti:ByteArray) (l:List ByteArray) (more:List ByteArray) (d:List Int) (a:Nat):Prop×Res×KH:=(RdOk d a∧(L.length≤60000∧l.length≤16)∧(∀c∈L,CWf c)∧(∀c∈L,c.link≤l.length),.ret (.tup []),[RB 3 k r L.length x y hd mo ti l (lkG d a l).2.2,rdr d (lkG d a l).2.1 0,.dead,.seq .cell (L.map (ulf l (lkG d a l).2.2))])
noncomputable def jiN:MSpec:=jcS (α:=Int×Int×(List CD)×Int×Int×Bool×Int×ByteArray×(List ByteArray)×(List ByteArray)×(List Int)×Nat) (fun⟨k,r,L,x,y,hd,mo,ti,l,more,d,a⟩=>(jgJ k r L x y hd mo ti l more d a,jgK k r L x y hd mo ti l more d a)) fun⟨k,r,L,x,y,hd,mo,ti,l,more,d,a⟩=>jn1 k r L x y hd mo ti l more d a
noncomputable def esp_rlinks:ESpec:=jjo (α:=Int×Int×(List CD)×Int×Int×Bool×Int×ByteArray×(List ByteArray)×(List ByteArray)×(List Int)×Nat) (fun⟨k,r,L,x,y,hd,mo,ti,l,more,d,a⟩=>(jgJ k r L x y hd mo ti l more d a,jgK k r L x y hd mo ti l more d a)) fun⟨k,r,L,x,y,hd,mo,ti,l,more,d,a⟩=>(lkG d a l).1
theorem jiO:InjM (α:=Int×Int×(List CD)×Int×Int×Bool×Int×ByteArray×(List ByteArray)×(List ByteArray)×(List Int)×Nat) (fun⟨k,r,L,x,y,hd,mo,ti,l,more,d,a⟩=>(jgJ k r L x y hd mo ti l more d a,jgK k r L x y hd mo ti l more d a)):=injM
theorem jaD (k:Int) (r:Int) (L:List CD) (x:Int) (y:Int) (hd:Bool) (mo:Int) (ti:ByteArray) (l:List ByteArray) (more:List ByteArray) (d:List Int) (a:Nat):jiN (jgJ k r L x y hd mo ti l more d a) (jgK k r L x y hd mo ti l more d a)=some (jn1 k r L x y hd mo ti l more d a):=jbd _ jiO (k,r,L,x,y,hd,mo,ti,l,more,d,a)
theorem jaE (k:Int) (r:Int) (L:List CD) (x:Int) (y:Int) (hd:Bool) (mo:Int) (ti:ByteArray) (l:List ByteArray) (more:List ByteArray) (d:List Int) (a:Nat):esp_rlinks (jgJ k r L x y hd mo ti l more d a) (jgK k r L x y hd mo ti l more d a)=(lkG d a l).1:=jdC _ jiO (k,r,L,x,y,hd,mo,ti,l,more,d,a)
theorem jwM:MutP Tryz.prog E0 64 jiN esp_rlinks:=MutP.of jiO fun⟨k,r,L,x,y,hd,mo,ti,l,more,d,a⟩ hG=>TF.intro (V:=(VV [(62,conP jfR esp_upto),(25,conT [.sl .str] sp_sclone),(63,conM msp_wtext),(61,conP jld esp_must3),(99,conF [.any] sp_lmay),(85,conT [.agg [.any,.any,.sl .cell,.any,.any,.any,.any,.any,.sl .str],.sl .str] sp_under)] (.cons (jaa jbs) (MutP.soundP jkI) (.cons (jaa jcC) (Fresh.soundT jo2) (.cons (jaa jdc) (MutF.soundM jr5) (.cons (jaa jbr) (MutP.soundP jyV) (.cons (jaa jeA) (Fresh.soundF jqH) (.cons (jaa jef) (Fresh.soundT jss) GOk.nil)))))) 68 3)) jdK rfl rfl (by
 dsimp only[jgJ,jgK,jn1]at hG ⊢
 obtain⟨hr,⟨hL,hl⟩,hwf,hlk⟩:=hG
 have hr0:=hr
 obtain⟨h1,h2,h3⟩:=hr
 have hv:=jaO h3 a
 have hr1:RdOk d (a+varU d a):=⟨jbz h1,h2,h3⟩
 have hv2:=jaO h3 (a+varU d a)
 have hr2:RdOk d (a+varU d a+varU d (a+varU d a)):=⟨jbz (jbz h1),h2,h3⟩
 by_cases e1:upE d a l.length=0
 ·have u1:=jcq e1
  by_cases e2:upE d (a+varU d a) (16-varV d a)=0
  ·have u2:=jcq e2
   have hW:lkG d a l=lnkG d (varV d (a+varU d a)).toNat (a+varU d a+varU d (a+varU d a)) (l.take (varV d a).toNat):=by rw[lkG,if_neg (by simp[e1]),if_neg (by simp[e2])]
   rw[hW]
   generalize hWg:lnkG d (varV d (a+varU d a)).toNat (a+varU d a+varU d (a+varU d a)) (l.take (varV d a).toNat)=W
   have hw:=And.intro e1 e2
   have htk:(l.take (varV d a).toNat).length=(varV d a).toNat:=by rw[List.length_take];omega
   have htk2:(l.take (varV d a).toNat).length≤1000000:=by omega
   have hcap:(l.take (varV d a).toNat).length+(varV d (a+varU d a)).toNat≤16:=by omega
   repeat' first|exact hr0|exact hr1|exact htk2|simp only[PB,SA,MB,seval,rdB,jac,jad,jaN,jap,jbU,jbV,jaR,jai,tq0,tq1,tq2]|simp only[hw]|simp only[hw2]|refine tT ?_|refine And.intro ?_ ?_|exact tC|(refine tI ?_;intro hyp)|intro hyp0|omega
   refine T.loop (fun q:Nat×Nat×List ByteArray=>⟨[(0,.ptr 0 0 0),(28,.int .i64 (varV d (a+varU d a))),(29,.int .i64 q.1)],[.box [.ptr 1 0 0,.int .i64 k,.int .i64 r,.slice 2 0 6 L.length L.length,.int .i64 x,.int .i64 y,.bool hd,.int .u8 mo,.str ti,.vec .str l,.slice 3 0 1 q.2.2.length q.2.2.length],rdr d q.2.1 0,.seq .cell L,.seq .str q.2.2]⟩) (fun q=>q.1≤(varV d (a+varU d a)).toNat∧RdOk d q.2.1∧q.2.2.length+((varV d (a+varU d a)).toNat-q.1)≤16∧lnkG d ((varV d (a+varU d a)).toNat-q.1) q.2.1 q.2.2=W) (fun q=>(varV d (a+varU d a)).toNat-q.1) (0,a+varU d a+varU d (a+varU d a),l.take (varV d a).toNat) ⟨by omega,hr2,by omega,hWg⟩ (Cos.intro [0,1,2,3] [] rfl (by (simp only[PB,SA,MB,seval,rdB,jac,jad,jaN,jap,jbU,jbV,jaR,jai,tq0,tq1,tq2]<;>exact tE))) (fun⟨i,a',m⟩ ⟨hi,hr',hm,hg⟩=>?_)
   dsimp only at hi hm hg hr'
   obtain⟨g1,g2,g3⟩:=hr'
   by_cases hin:i<(varV d (a+varU d a)).toNat
   ·obtain⟨n',hn'⟩:∃n',(varV d (a+varU d a)).toNat-i=n'+1:=⟨(varV d (a+varU d a)).toNat-i-1,by omega⟩
    rw[hn']at hg
    simp only[lnkG]at hg
    have hsl:SLen (ja5 (je2 d a' 64)):=by
     have:=jlc d a' 64
     simp only[SLen,jdO]
     omega
    by_cases t1:jd0 d a' 64=0
    ·rw[if_neg (by simp[t1])]at hg
     cases t2:jdg (ja5 (je2 d a' 64))
     ·rw[if_pos t2]at hg
      subst hg
      rw[ja0 (by decide),ja1 (by decide)]
      have hw2:=And.intro t1 t2
      repeat' first|exact g3 _ ‹_›|exact hsl|simp only[PB,SA,MB,seval,rdB,jac,jad,jaN,jap,jbU,jbV,jaR,jai,tq0,tq1,tq2]|simp only[hw]|simp only[hw2]|refine tT ?_|refine Cos.err (Cos.intro [0,1,2] [] rfl ?_)|refine And.intro ?_ ?_|exact tC|(refine tI ?_;intro hyp)|intro hyp0|omega
     ·rw[if_neg (by simp[t2])]at hg
      have hw2:=And.intro t1 t2
      have hml:m.length≤1073741823:=by omega
      repeat' first|exact g3 _ ‹_›|exact hsl|exact hml|simp only[PB,SA,MB,seval,rdB,jac,jad,jaN,jap,jbU,jbV,jaR,jai,tq0,tq1,tq2]|simp only[hw]|simp only[hw2]|refine tT ?_|refine And.intro ?_ ?_|exact tC|(refine tI ?_;intro hyp)|intro hyp0|omega
      exact⟨(i+1,a'+je3 d a' 64,m++[ja5 (je2 d a' 64)]),⟨by omega,⟨jst g1,g2,g3⟩,by simp only[List.length_append,List.length_cons,List.length_nil];omega,(show (varV d (a+varU d a)).toNat-(i+1)=n' by omega)▸hg⟩,by simp only;omega,Cos.intro [0,1,2,5] [] rfl (by (simp only[PB,SA,MB,seval,rdB,jac,jad,jaN,jap,jbU,jbV,jaR,jai,tq0,tq1,tq2]<;>exact tE))⟩
    ·rw[if_pos t1]at hg
     subst hg
     rw[ja0 t1,ja1 t1]
     have hw2:=eq_false t1
     repeat' first|exact g3 _ ‹_›|simp only[PB,SA,MB,seval,rdB,jac,jad,jaN,jap,jbU,jbV,jaR,jai,tq0,tq1,tq2]|simp only[hw]|simp only[hw2]|refine tT ?_|refine Cos.err (Cos.intro [0,1,2] [] rfl ?_)|refine And.intro ?_ ?_|exact tC|(refine tI ?_;intro hyp)|intro hyp0|omega
   ·rw[show (varV d (a+varU d a)).toNat-i=0 by omega]at hg
    simp only[lnkG]at hg
    subst hg
    rw[jcv rfl,jcw rfl]
    have hlm:(L.map (ulf l m)).length=L.length:=by simp
    have hm6:m.length≤60000:=by omega
    have hw2:=hlm
    repeat' first|exact hwf|exact hlk|exact hm6|exact hlm|simp only[PB,SA,MB,seval,rdB,jac,jad,jaN,jap,jbU,jbV,jaR,jai,tq0,tq1,tq2]|simp only[hw]|simp only[hw2]|refine tT ?_|refine Cos.intro [0,1,2,4] [3] rfl ?_|refine And.intro ?_ ?_|exact tC|(refine tI ?_;intro hyp)|intro hyp0|omega
  ·have hW:lkG d a l=(upE d (a+varU d a) (16-varV d a),0,[]):=by rw[lkG,if_neg (by simp[e1]),if_pos e2]
   rw[hW,ja0 e2,ja1 e2]
   have hw:=And.intro e1 (eq_false e2)
   repeat' first|exact hr0|exact hr1|simp only[PB,SA,MB,seval,rdB,jac,jad,jaN,jap,jbU,jbV,jaR,jai,tq0,tq1,tq2]|simp only[hw]|simp only[hw2]|refine tT ?_|refine Cos.err (Cos.intro [0,1,2] [] rfl ?_)|refine And.intro ?_ ?_|exact tC|(refine tI ?_;intro hyp)|intro hyp0|omega
 ·have hW:lkG d a l=(upE d a l.length,0,[]):=by rw[lkG,if_pos e1]
  rw[hW,ja0 e1,ja1 e1]
  have hw:=eq_false e1
  repeat' first|exact hr0|simp only[PB,SA,MB,seval,rdB,jac,jad,jaN,jap,jbU,jbV,jaR,jai,tq0,tq1,tq2]|simp only[hw]|simp only[hw2]|refine tT ?_|refine Cos.err (Cos.intro [0,1,2] [] rfl ?_)|refine And.intro ?_ ?_|exact tC|(refine tI ?_;intro hyp)|intro hyp0|omega)
end
end Go.Proofs.YtcfkfgkndncanaaGreatDoor
