/- Texts of this claim, merged by a program of this claim: FRapply4. -/
import Derived.Test.YtcfkfgkndncanaaGreatDoorMa34
import Derived.Test.YtcfkfgkndncanaaGreatDoorMa47
namespace Go.Proofs.YtcfkfgkndncanaaGreatDoor
set_option linter.unusedVariables false
set_option linter.unusedSimpArgs false
section
open Go.RowKit
set_option maxRecDepth 100000
set_option maxHeartbeats 8000000
theorem jl4 (m:Nat):∀(n:Nat),jfJ m (List.replicate n blank0)=some 0
 | 0=>rfl
 | n+1=>by
  rw[show List.replicate (n+1) blank0=List.replicate n blank0++[blank0] by rw[List.replicate_succ'],jdx,jl4 m n]
  simp[blank0]
theorem jrN (n:Nat):jct (List.replicate n blank0) []=true:=by
 unfold jct
 rw[jl4]
 rfl
def Lk (last:Int) (s:RS):Prop:=last<5→jct s.L s.l=true
theorem jAh {d:List Int}{kd:Int}{s:RS}(h:jct s.L s.l=true) (hk:1≤kd∧kd≤8) (e:(thG d kd s).1=0):Lk kd (thG d kd s).2:=by
 intro h5
 obtain rfl|rfl|rfl|rfl:kd=1∨kd=2∨kd=3∨kd=4:=by omega
 ·change jct (th1 d s).2.L (th1 d s).2.l=true
  change (th1 d s).1=0 at e
  unfold th1 at e ⊢
  split at e
  ·rename_i q
   exact absurd e q
  rename_i q1
  rw[if_neg q1]
  split at e
  ·rename_i q
   exact absurd e q
  rename_i q2
  rw[if_neg q2]
  split at e
  ·cases e
  rename_i q3
  rw[if_neg q3]
  exact jrN _
 ·change jct (th2 d s).2.L (th2 d s).2.l=true
  change (th2 d s).1=0 at e
  unfold th2 at e ⊢
  split at e
  ·rename_i q
   exact absurd e q
  rename_i q1
  rw[if_neg q1]
  split at e
  ·rename_i q
   exact absurd e q
  rename_i q2
  rw[if_neg q2]
  split at e
  ·rename_i q
   exact absurd e q
  rename_i q3
  rw[if_neg q3]
  exact h
 ·change jct (th3 d s).2.L (th3 d s).2.l=true
  change (th3 d s).1=0 at e
  unfold th3 at e ⊢
  split at e
  ·rename_i q
   exact absurd e q
  rename_i q1
  rw[if_neg q1]
  exact h
 ·change jct (th4 d s).2.L (th4 d s).2.l=true
  change (th4 d s).1=0 at e
  unfold th4 at e ⊢
  split at e
  ·rename_i q
   exact absurd e q
  rename_i q1
  rw[if_neg q1]
  exact h
abbrev jl5 (k:Int) (r:Int) (L:List CD) (x:Int) (y:Int) (hd:Bool) (mo:Int) (ti:ByteArray) (l:List ByteArray) (d:List Int):List CV:=[.agg [.int .i64 k,.int .i64 r,.vec .cell L,.int .i64 x,.int .i64 y,.bool hd,.int .u8 mo,.str ti,.vec .str l],.vec (.int .u8) d]
abbrev jl6 (k:Int) (r:Int) (L:List CD) (x:Int) (y:Int) (hd:Bool) (mo:Int) (ti:ByteArray) (l:List ByteArray) (d:List Int):Prop×Res:=(ScrOk L l∧SLen ti∧(∀c∈L,CWf c)∧d.length≤1000000∧Bts d,.ret (.tup [.agg [.int .i64 (apG d ⟨k,r,L,x,y,hd,mo,ti,l,[],0⟩).2.k,.int .i64 (apG d ⟨k,r,L,x,y,hd,mo,ti,l,[],0⟩).2.r,.vec .cell (apG d ⟨k,r,L,x,y,hd,mo,ti,l,[],0⟩).2.L,.int .i64 (apG d ⟨k,r,L,x,y,hd,mo,ti,l,[],0⟩).2.x,.int .i64 (apG d ⟨k,r,L,x,y,hd,mo,ti,l,[],0⟩).2.y,.bool (apG d ⟨k,r,L,x,y,hd,mo,ti,l,[],0⟩).2.hd,.int .u8 (apG d ⟨k,r,L,x,y,hd,mo,ti,l,[],0⟩).2.mo,.str (apG d ⟨k,r,L,x,y,hd,mo,ti,l,[],0⟩).2.ti,.vec .str (apG d ⟨k,r,L,x,y,hd,mo,ti,l,[],0⟩).2.more],.int .i64 (apG d ⟨k,r,L,x,y,hd,mo,ti,l,[],0⟩).1]))
noncomputable def sp_r8apply:Spec:=spOf (α:=Int×Int×(List CD)×Int×Int×Bool×Int×ByteArray×(List ByteArray)×(List Int)) (fun⟨k,r,L,x,y,hd,mo,ti,l,d⟩=>jl5 k r L x y hd mo ti l d) fun⟨k,r,L,x,y,hd,mo,ti,l,d⟩=>jl6 k r L x y hd mo ti l d
theorem jbV (k:Int) (r:Int) (L:List CD) (x:Int) (y:Int) (hd:Bool) (mo:Int) (ti:ByteArray) (l:List ByteArray) (d:List Int):sp_r8apply (jl5 k r L x y hd mo ti l d)=some (jl6 k r L x y hd mo ti l d):=jaq _ injS (k,r,L,x,y,hd,mo,ti,l,d)
theorem jtK:Alias Tryz.prog E0 12 sp_r8apply:=Alias.of fun⟨k,r,L,x,y,hd,mo,ti,l,d⟩ hG=>TF.intro (V:=(VV [(15,conF [.agg [.any,.any,.sl .cell,.any,.any,.any,.any,.any,.sl .str]] sp_r12right),(9,conF [.agg [.any,.any,.sl .cell,.any,.any,.any,.any,.any,.sl .str]] sp_scopy),(30,conF [.sl .str] sp_rscopy),(31,conF [.agg [.sl (.int .u8),.any,.any]] sp_rleft),(32,conQ [.agg [.sl (.int .u8),.any,.any,.any,.any,.sl .cell,.any,.any,.any,.any,.any,.sl .str,.sl .str],.any] jju jjv esp_r8plain),(33,conQ [.agg [.sl (.int .u8),.any,.any,.any,.any,.sl .cell,.any,.any,.any,.any,.any,.sl .str,.sl .str]] jhC jhD esp_r8linked),(34,conQ [.agg [.sl (.int .u8),.any,.any,.any,.any,.sl .cell,.any,.any,.any,.any,.any,.sl .str,.sl .str],.any] jgS jgT esp_r8num),(37,conF [.agg [.any,.any,.sl .cell,.any,.any,.any,.any,.any,.sl .str]] sp_r8rows),(36,conA [.sl (.rows .cell),.any] sp_r8scrolled),(35,conF [.sl (.rows .cell)] sp_rgof),(38,conQ [.agg [.sl (.int .u8),.any,.any,.any,.any,.sl .cell,.any,.any,.any,.any,.any,.sl .str,.sl .str]] jhE jhF esp_r8copies),(39,conQ [.agg [.sl (.int .u8),.any,.any,.any,.any,.sl .cell,.any,.any,.any,.any,.any,.sl .str,.sl .str]] jjC jjD esp_r8rruns)] (.cons (jaa jly) (Fresh.soundF jre) (.cons (jaa jiU) (Fresh.soundF jsC) (.cons (jaa jiT) (Fresh.soundF jpG) (.cons (jaa jfd) (Fresh.soundF jyr) (.cons (jaa jfr) (AliasQ.soundQ jtI) (.cons (jaa jeS) (AliasQ.soundQ jrL) (.cons (jaa jb6) (AliasQ.soundQ jkg) (.cons (jaa jjt) (Fresh.soundF jpR) (.cons (jaa jg9) (Alias.soundA joJ) (.cons (jaa jgH) (Fresh.soundF jnJ) (.cons (jaa jeT) (AliasQ.soundQ jrM) (.cons (jaa jfY) (AliasQ.soundQ jtJ) GOk.nil)))))))))))) 144 0)) jlX rfl rfl (by
 dsimp only[jl5,jl6]at hG ⊢
 obtain⟨hsc,hti,hwf,hdl,hb⟩:=hG
 by_cases hRt:jb5 k r L x y mo ti l=true
 case neg =>
  have hR0:=Bool.eq_false_iff.2 hRt
  have hW:apG d ⟨k,r,L,x,y,hd,mo,ti,l,[],0⟩=(1,zeroR):=if_pos hR0
  rw[hW]
  have hw:=hR0
  repeat' first|exact hsc|exact hti|simp only[PB,SA,seval,rdB,jaA,jaz,jau,jbc,jaS,jaT,jaB,jaC,jaD,jav,jag,jah,jad,jax,jas,jap,jaE,jaF,jaw,jaU,jaV,jaG,tq0,tq1,tq2]|simp only[hw]|simp only[hw4]|refine tT ?_|refine Cos.intro [] [0,1,2,3,4,5,6,7,8,9] rfl ?_|refine And.intro ?_ ?_|exact tC|(refine tI ?_;intro hyp)|intro hyp0|omega
  all_goals (simp[zeroR,jcr])
 obtain⟨hz,h16,hlk⟩:=ji5 hRt
 have hgr:=jgk hRt
 have hlb:jct L l=true:=by
  unfold jb5 at hRt
  simp only[Bool.and_eq_true]at hRt
  exact hRt.1.1.1.1.1.1.1.2
 have hl7:l.length≤1000000:=by omega
 have hl6:L.length≤1000000:=by have:=hz.le;omega
 have hw:=hRt
 repeat' first|exact hsc|exact hti|exact hl6|exact hl7|simp only[PB,SA,seval,rdB,jaA,jaz,jau,jbc,jaS,jaT,jaB,jaC,jaD,jav,jag,jah,jad,jax,jas,jap,jaE,jaF,jaw,jaU,jaV,jaG,tq0,tq1,tq2]|simp only[hw]|simp only[hw4]|refine tT ?_|refine And.intro ?_ ?_|exact tC|(refine tI ?_;intro hyp)|intro hyp0|omega
 generalize hW:goG d 9 0 ⟨k,r,L,x,y,hd,mo,ti,l,l,0⟩=W
 refine T.loop (fun q:Nat×Int×RS=>⟨[(4,.ptr 0 0 0),(6,.ptr 1 0 0),(7,.int .i64 q.2.1)],[.box [.int .i64 0,.int .i64 0,.nils,.int .i64 0,.int .i64 0,.bool false,.int .u8 0,.str (bs []),.nils],.box [.vec (.int .u8) d,.int .i64 (q.2.2.a:Int),.int .i64 0,.int .i64 q.2.2.k,.int .i64 q.2.2.r,.vec .cell q.2.2.L,.int .i64 q.2.2.x,.int .i64 q.2.2.y,.bool q.2.2.hd,.int .u8 q.2.2.mo,.str q.2.2.ti,.vec .str q.2.2.l,.vec .str q.2.2.more]]⟩) (fun q=>8-q.2.1<q.1∧(0≤q.2.1∧q.2.1≤8)∧Kept d q.2.1 q.2.2∧Lk q.2.1 q.2.2∧goG d q.1 q.2.1 q.2.2=W) (fun q=>q.1) (9,0,⟨k,r,L,x,y,hd,mo,ti,l,l,0⟩) ?_ (Cos.intro [1,2] [] rfl (by (simp only[PB,SA,seval,rdB,jaA,jaz,jau,jbc,jaS,jaT,jaB,jaC,jaD,jav,jag,jah,jad,jax,jas,jap,jaE,jaF,jaw,jaU,jaV,jaG,tq0,tq1,tq2]<;>exact tE))) (fun q hq=>?_)
 ·exact⟨by dsimp only;omega,⟨by dsimp only;omega,by dsimp only;omega⟩,⟨⟨Nat.zero_le _,hdl,hb⟩,hz,h16,h16,hwf,fun _=>hlk,fun _=>hgr,hsc.slen,hti,hsc.slen⟩,fun _=>hlb,hW⟩
 obtain⟨f,last,s⟩:=q
 obtain⟨hf,⟨h0,h8⟩,hK,hLk,hg⟩:=hq
 dsimp only at hf h0 h8 hK hg hLk
 clear hw
 cases f with
 | zero=>omega
 | succ f =>
 simp only[goG]at hg
 have hrd:=hK.rd
 by_cases ha:d.length≤s.a
 ·rw[if_pos ha]at hg
  subst hg
  have hsk:ScrOk s.L s.more:=⟨hK.wf,by have:=hK.sz.le;omega,by have:=hK.nm;omega,hK.sl⟩
  by_cases hR:jb5 s.k s.r s.L s.x s.y s.mo s.ti s.more=true
  ·rw[jsI (d:=d) (s:=⟨k,r,L,x,y,hd,mo,ti,l,[],0⟩) hRt hW hR]
   have hw:=hR
   repeat' first|exact hrd.1|exact hdl|exact hsk|exact hK.st|simp only[PB,SA,seval,rdB,jaA,jaz,jau,jbc,jaS,jaT,jaB,jaC,jaD,jav,jag,jah,jad,jax,jas,jap,jaE,jaF,jaw,jaU,jaV,jaG,tq0,tq1,tq2]|simp only[hw]|simp only[hw4]|refine tT ?_|refine Cos.intro [] [0,1,2,3,4,5,6,7,8,9] rfl ?_|refine And.intro ?_ ?_|exact tC|(refine tI ?_;intro hyp)|intro hyp0|omega
  ·have hR2:=Bool.eq_false_iff.2 hR
   rw[jom (d:=d) (s:=⟨k,r,L,x,y,hd,mo,ti,l,[],0⟩) hRt hW hR2]
   have hw:=hR2
   repeat' first|exact hrd.1|exact hdl|exact hsk|exact hK.st|simp only[PB,SA,seval,rdB,jaA,jaz,jau,jbc,jaS,jaT,jaB,jaC,jaD,jav,jag,jah,jad,jax,jas,jap,jaE,jaF,jaw,jaU,jaV,jaG,tq0,tq1,tq2]|simp only[hw]|simp only[hw4]|refine tT ?_|refine Cos.intro [] [0,1,2,3,4,5,6,7,8,9] rfl ?_|refine And.intro ?_ ?_|exact tC|(refine tI ?_;intro hyp)|intro hyp0|omega
   all_goals (simp[zeroR,jcr])
 rw[if_neg ha]at hg
 obtain⟨kd,hkd⟩:∃kd,d.getD s.a 0=kd:=⟨_,rfl⟩
 rw[hkd]at hg
 have hln:s.a<d.length:=by omega
 have hkb:0≤kd∧kd<256:=by
  rw[←hkd]
  exact hrd.2.2 _ (jed (d:=0) hln)
 by_cases h9:kd≤last∨8<kd
 ·rw[if_pos h9]at hg
  subst hg
  rw[jgl (d:=d) (s:=⟨k,r,L,x,y,hd,mo,ti,l,[],0⟩) hRt hW (by decide)]
  have hw:=hkd
  repeat' first|exact hrd.1|exact hdl|exact hln|simp only[PB,SA,seval,rdB,jaA,jaz,jau,jbc,jaS,jaT,jaB,jaC,jaD,jav,jag,jah,jad,jax,jas,jap,jaE,jaF,jaw,jaU,jaV,jaG,tq0,tq1,tq2]|simp only[hw]|simp only[hw4]|refine tT ?_|refine Cos.intro [] [0,1,2,3,4,5,6,7,8,9] rfl ?_|refine And.intro ?_ ?_|exact tC|(refine tI ?_;intro hyp)|intro hyp0|omega
  all_goals (simp[zeroR,jcr])
 rw[if_neg h9]at hg
 have hK2:=hK.next hln
 obtain⟨⟨k1,k2⟩,⟨r1,r2⟩,hLl⟩:=hK.sz
 have hnl:=hK.nl
 have hnm:=hK.nm
 have hsl2:ScrOk s.L s.l:=⟨hK.wf,by have:=hK.sz.le;omega,by omega,hK.ls⟩
 have hsz:=hK.sz
 have hrd2:=hK2.rd
 have hw4:(s.a:Int)+1=((s.a+1:Nat):Int):=rfl
 by_cases he:(thG d kd { s with a:=s.a+1 }).1=0
 ·rw[if_neg (by rw[he];decide)]at hg
  have hK3:=jwI hK2 (show last<kd by omega) (by omega) he
  have hlk3:Lk kd (thG d kd { s with a:=s.a+1 }).2:=fun q=>jAh (s:={ s with a:=s.a+1 }) (hLk (by omega)) (by omega) he q
  by_cases c4:kd≤4
  ·have hw:=And.intro hkd he
   repeat' first|exact hrd.1|exact hdl|exact hln|exact hrd2|simp only[PB,SA,seval,rdB,jaA,jaz,jau,jbc,jaS,jaT,jaB,jaC,jaD,jav,jag,jah,jad,jax,jas,jap,jaE,jaF,jaw,jaU,jaV,jaG,tq0,tq1,tq2]|simp only[hw]|simp only[hw4]|refine tT ?_|refine And.intro ?_ ?_|exact tC|(refine tI ?_;intro hyp)|intro hyp0|omega
   exact⟨(f,kd,(thG d kd { s with a:=s.a+1 }).2),⟨by dsimp only;omega,⟨by dsimp only;omega,by dsimp only;omega⟩,hK3,hlk3,hg⟩,Nat.lt_succ_self _,Cos.intro [0,1] [] rfl (by (simp only[PB,SA,seval,rdB,jaA,jaz,jau,jbc,jaS,jaT,jaB,jaC,jaD,jav,jag,jah,jad,jax,jas,jap,jaE,jaF,jaw,jaU,jaV,jaG,tq0,tq1,tq2]<;>exact tE))⟩
  obtain rfl|rfl|rfl|rfl:kd=5∨kd=6∨kd=7∨kd=8:=by omega
  ·have hlb2:=hLk (by omega)
   have e5:(lkG d (s.a+1) s.l).1=0:=by
    change (th5 d { s with a:=s.a+1 }).1=0 at he
    unfold th5 at he
    split at he
    ·rename_i q
     exact absurd he q
    ·rename_i q
     exact Classical.not_not.mp q
   have hT:(thG d 5 { s with a:=s.a+1 }).2={ s with more:=(lkG d (s.a+1) s.l).2.2,L:=s.L.map (ulf s.l (lkG d (s.a+1) s.l).2.2),a:=(lkG d (s.a+1) s.l).2.1 }:=by
    change (th5 d { s with a:=s.a+1 }).2=_
    unfold th5
    rw[if_neg (by simp[e5])]
   have hw:=And.intro hkd e5
   repeat' first|exact hrd.1|exact hdl|exact hln|exact hrd2|exact hsl2|exact hlb2|exact hsz|simp only[PB,SA,seval,rdB,jaA,jaz,jau,jbc,jaS,jaT,jaB,jaC,jaD,jav,jag,jah,jad,jax,jas,jap,jaE,jaF,jaw,jaU,jaV,jaG,tq0,tq1,tq2]|simp only[hw]|simp only[hw4]|refine tT ?_|refine And.intro ?_ ?_|exact tC|(refine tI ?_;intro hyp)|intro hyp0|omega
   exact⟨(f,5,(thG d 5 { s with a:=s.a+1 }).2),⟨by dsimp only;omega,⟨by dsimp only;omega,by dsimp only;omega⟩,hK3,hlk3,hg⟩,Nat.lt_succ_self _,Cos.intro [0,1] [] rfl (by dsimp only;rw[hT];(simp only[PB,SA,seval,rdB,jaA,jaz,jau,jbc,jaS,jaT,jaB,jaC,jaD,jav,jag,jah,jad,jax,jas,jap,jaE,jaF,jaw,jaU,jaV,jaG,tq0,tq1,tq2]<;>exact tE))⟩
  ·have t1:upE d (s.a+1) (2*s.r-2)=0:=by
    change (th6 d { s with a:=s.a+1 }).1=0 at he
    unfold th6 at he
    split at he
    ·rename_i q
     exact absurd he q
    ·rename_i q
     exact Classical.not_not.mp q
   have t2:¬varV d (s.a+1)=0:=by
    change (th6 d { s with a:=s.a+1 }).1=0 at he
    unfold th6 at he
    rw[if_neg (by simp[t1])]at he
    split at he
    ·cases he
    ·rename_i q
     exact q
   have u1:=jbe t1
   have hT:(thG d 6 { s with a:=s.a+1 }).2={ s with L:=(jcl (jbv s.L s.k.toNat s.r.toNat) (ji3 (varV d (s.a+1)))).flatten,a:=s.a+1+varU d (s.a+1) }:=by
    change (th6 d { s with a:=s.a+1 }).2=_
    unfold th6
    rw[if_neg (by simp[t1]),if_neg t2]
   obtain⟨g,hgT⟩:∃g,ji3 (varV d (s.a+1))=g:=⟨_,rfl⟩
   rw[hgT]at hT
   have hrw:(0≤s.k∧s.k≤100)∧(0≤s.r∧s.r≤100)∧s.L.length=s.k.toNat*s.r.toNat:=⟨by omega,by omega,hLl⟩
   have hR0:=jdy hLl
   have hM1:(jbv s.L s.k.toNat s.r.toNat).length≤1000:=by rw[jcC];omega
   have hM2:∀a∈jbv s.L s.k.toNat s.r.toNat,a.length≤1000:=fun a ha=>by rw[hR0.row a ha];omega
   have hle:=hsz.le
   have v6:=jar hrd2.2.2 (s.a+1)
   have u12:=u1.2.2
   have hgo:∀m,(jcl (jbv s.L s.k.toNat s.r.toNat) m).flatten.length≤1000000∧(jcl (jbv s.L s.k.toNat s.r.toNat) m).length≤1000000:=fun m=>by
    have:=jnN hR0 m
    refine⟨?_,by rw[this.len];omega⟩
    rw[jpS this,Nat.mul_comm,←hLl]
    omega
   by_cases hpar:varV d (s.a+1) % 2=0
   ·have htg:-(varV d (s.a+1) / 2)=g:=by
     rw[←hgT,ji3,if_pos hpar]
     omega
    have hw:=And.intro hkd (And.intro t1 (And.intro (eq_false t2) (And.intro hpar htg)))
    have htb:-1000≤g∧g≤1000:=by omega
    repeat' first|exact hrd.1|exact hdl|exact hln|exact hrd2|exact hrw|exact hM1|exact hM2|exact (hgo _).1|exact (hgo _).2|simp only[PB,SA,seval,rdB,jaA,jaz,jau,jbc,jaS,jaT,jaB,jaC,jaD,jav,jag,jah,jad,jax,jas,jap,jaE,jaF,jaw,jaU,jaV,jaG,tq0,tq1,tq2]|simp only[hw]|simp only[hw4]|refine tT ?_|refine And.intro ?_ ?_|exact tC|(refine tI ?_;intro hyp)|intro hyp0|omega
    exact⟨(f,6,(thG d 6 { s with a:=s.a+1 }).2),⟨by dsimp only;omega,⟨by dsimp only;omega,by dsimp only;omega⟩,hK3,hlk3,hg⟩,Nat.lt_succ_self _,Cos.intro [0,1] [] rfl (by dsimp only;rw[hT];(simp only[PB,SA,seval,rdB,jaA,jaz,jau,jbc,jaS,jaT,jaB,jaC,jaD,jav,jag,jah,jad,jax,jas,jap,jaE,jaF,jaw,jaU,jaV,jaG,tq0,tq1,tq2]<;>exact tE))⟩
   ·have htg:(varV d (s.a+1)+1) / 2=g:=by
     rw[←hgT,ji3,if_neg hpar]
    have hw:=And.intro hkd (And.intro t1 (And.intro (eq_false t2) (And.intro (eq_false hpar) htg)))
    have htb:-1000≤g∧g≤1000:=by omega
    repeat' first|exact hrd.1|exact hdl|exact hln|exact hrd2|exact hrw|exact hM1|exact hM2|exact (hgo _).1|exact (hgo _).2|simp only[PB,SA,seval,rdB,jaA,jaz,jau,jbc,jaS,jaT,jaB,jaC,jaD,jav,jag,jah,jad,jax,jas,jap,jaE,jaF,jaw,jaU,jaV,jaG,tq0,tq1,tq2]|simp only[hw]|simp only[hw4]|refine tT ?_|refine And.intro ?_ ?_|exact tC|(refine tI ?_;intro hyp)|intro hyp0|omega
    exact⟨(f,6,(thG d 6 { s with a:=s.a+1 }).2),⟨by dsimp only;omega,⟨by dsimp only;omega,by dsimp only;omega⟩,hK3,hlk3,hg⟩,Nat.lt_succ_self _,Cos.intro [0,1] [] rfl (by dsimp only;rw[hT];(simp only[PB,SA,seval,rdB,jaA,jaz,jau,jbc,jaS,jaT,jaB,jaC,jaD,jav,jag,jah,jad,jax,jas,jap,jaE,jaF,jaw,jaU,jaV,jaG,tq0,tq1,tq2]<;>exact tE))⟩
  ·have e7:(cpsG d (s.a+1) s.k.toNat s.r.toNat s.L).1=0:=by
    change (th7 d { s with a:=s.a+1 }).1=0 at he
    unfold th7 at he
    split at he
    ·rename_i q
     exact absurd he q
    ·rename_i q
     exact Classical.not_not.mp q
   have hT:(thG d 7 { s with a:=s.a+1 }).2={ s with L:=(cpsG d (s.a+1) s.k.toNat s.r.toNat s.L).2.2,a:=(cpsG d (s.a+1) s.k.toNat s.r.toNat s.L).2.1 }:=by
    change (th7 d { s with a:=s.a+1 }).2=_
    unfold th7
    rw[if_neg (by simp[e7])]
   have hw:=And.intro hkd e7
   repeat' first|exact hrd.1|exact hdl|exact hln|exact hrd2|exact hsz|simp only[PB,SA,seval,rdB,jaA,jaz,jau,jbc,jaS,jaT,jaB,jaC,jaD,jav,jag,jah,jad,jax,jas,jap,jaE,jaF,jaw,jaU,jaV,jaG,tq0,tq1,tq2]|simp only[hw]|simp only[hw4]|refine tT ?_|refine And.intro ?_ ?_|exact tC|(refine tI ?_;intro hyp)|intro hyp0|omega
   exact⟨(f,7,(thG d 7 { s with a:=s.a+1 }).2),⟨by dsimp only;omega,⟨by dsimp only;omega,by dsimp only;omega⟩,hK3,hlk3,hg⟩,Nat.lt_succ_self _,Cos.intro [0,1] [] rfl (by dsimp only;rw[hT];(simp only[PB,SA,seval,rdB,jaA,jaz,jau,jbc,jaS,jaT,jaB,jaC,jaD,jav,jag,jah,jad,jax,jas,jap,jaE,jaF,jaw,jaU,jaV,jaG,tq0,tq1,tq2]<;>exact tE))⟩
  ·have e8:(rnsG d (s.a+1) s.k.toNat s.more.length s.L).1=0:=by
    change (th8 d { s with a:=s.a+1 }).1=0 at he
    unfold th8 at he
    split at he
    ·rename_i q
     exact absurd he q
    ·rename_i q
     exact Classical.not_not.mp q
   have hT:(thG d 8 { s with a:=s.a+1 }).2={ s with L:=(rnsG d (s.a+1) s.k.toNat s.more.length s.L).2.2,a:=(rnsG d (s.a+1) s.k.toNat s.more.length s.L).2.1 }:=by
    change (th8 d { s with a:=s.a+1 }).2=_
    unfold th8
    rw[if_neg (by simp[e8])]
   have hw:=And.intro hkd e8
   repeat' first|exact hrd.1|exact hdl|exact hln|exact hrd2|exact hsz|simp only[PB,SA,seval,rdB,jaA,jaz,jau,jbc,jaS,jaT,jaB,jaC,jaD,jav,jag,jah,jad,jax,jas,jap,jaE,jaF,jaw,jaU,jaV,jaG,tq0,tq1,tq2]|simp only[hw]|simp only[hw4]|refine tT ?_|refine And.intro ?_ ?_|exact tC|(refine tI ?_;intro hyp)|intro hyp0|omega
   exact⟨(f,8,(thG d 8 { s with a:=s.a+1 }).2),⟨by dsimp only;omega,⟨by dsimp only;omega,by dsimp only;omega⟩,hK3,hlk3,hg⟩,Nat.lt_succ_self _,Cos.intro [0,1] [] rfl (by dsimp only;rw[hT];(simp only[PB,SA,seval,rdB,jaA,jaz,jau,jbc,jaS,jaT,jaB,jaC,jaD,jav,jag,jah,jad,jax,jas,jap,jaE,jaF,jaw,jaU,jaV,jaG,tq0,tq1,tq2]<;>exact tE))⟩
 ·rw[if_pos he]at hg
  subst hg
  rw[jgl (d:=d) (s:=⟨k,r,L,x,y,hd,mo,ti,l,[],0⟩) hRt hW he]
  by_cases c4:kd≤4
  ·have hw:=And.intro hkd (eq_false he)
   repeat' first|exact hrd.1|exact hdl|exact hln|exact hrd2|simp only[PB,SA,seval,rdB,jaA,jaz,jau,jbc,jaS,jaT,jaB,jaC,jaD,jav,jag,jah,jad,jax,jas,jap,jaE,jaF,jaw,jaU,jaV,jaG,tq0,tq1,tq2]|simp only[hw]|simp only[hw4]|refine tT ?_|refine Cos.intro [] [0,1,2,3,4,5,6,7,8,9] rfl ?_|refine And.intro ?_ ?_|exact tC|(refine tI ?_;intro hyp)|intro hyp0|omega
   all_goals (simp[zeroR,jcr])
  obtain rfl|rfl|rfl|rfl:kd=5∨kd=6∨kd=7∨kd=8:=by omega
  ·have hlb2:=hLk (by omega)
   have hT:(thG d 5 { s with a:=s.a+1 }).1=(lkG d (s.a+1) s.l).1:=by
    change (th5 d { s with a:=s.a+1 }).1=_
    unfold th5
    split
    ·rfl
    ·rename_i q
     exact (Classical.not_not.mp q).symm
   rw[hT]at he ⊢
   have hw:=And.intro hkd (eq_false he)
   repeat' first|exact hrd.1|exact hdl|exact hln|exact hrd2|exact hsl2|exact hlb2|exact hsz|simp only[PB,SA,seval,rdB,jaA,jaz,jau,jbc,jaS,jaT,jaB,jaC,jaD,jav,jag,jah,jad,jax,jas,jap,jaE,jaF,jaw,jaU,jaV,jaG,tq0,tq1,tq2]|simp only[hw]|simp only[hw4]|refine tT ?_|refine Cos.intro [] [0,1,2,3,4,5,6,7,8,9] rfl ?_|refine And.intro ?_ ?_|exact tC|(refine tI ?_;intro hyp)|intro hyp0|omega
   all_goals (simp[zeroR,jcr])
  ·by_cases t1:upE d (s.a+1) (2*s.r-2)=0
   ·have hT:(thG d 6 { s with a:=s.a+1 }).1=3:=by
     change (th6 d { s with a:=s.a+1 }).1=3
     change ¬(th6 d { s with a:=s.a+1 }).1=0 at he
     unfold th6 at he ⊢
     rw[if_neg (by simp[t1])]at he ⊢
     split
     ·rfl
     ·rename_i q
      rw[if_neg q]at he
      exact absurd rfl he
    have t2:varV d (s.a+1)=0:=by
     change ¬(th6 d { s with a:=s.a+1 }).1=0 at he
     unfold th6 at he
     rw[if_neg (by simp[t1])]at he
     by_cases q:varV d (s.a+1)=0
     ·exact q
     ·rw[if_neg q]at he
      exact absurd rfl he
    rw[hT]
    have hw:=And.intro hkd (And.intro t1 t2)
    repeat' first|exact hrd.1|exact hdl|exact hln|exact hrd2|simp only[PB,SA,seval,rdB,jaA,jaz,jau,jbc,jaS,jaT,jaB,jaC,jaD,jav,jag,jah,jad,jax,jas,jap,jaE,jaF,jaw,jaU,jaV,jaG,tq0,tq1,tq2]|simp only[hw]|simp only[hw4]|refine tT ?_|refine Cos.intro [] [0,1,2,3,4,5,6,7,8,9] rfl ?_|refine And.intro ?_ ?_|exact tC|(refine tI ?_;intro hyp)|intro hyp0|omega
    all_goals (simp[zeroR,jcr])
   ·have hT:(thG d 6 { s with a:=s.a+1 }).1=upE d (s.a+1) (2*s.r-2):=by
     change (th6 d { s with a:=s.a+1 }).1=_
     unfold th6
     rw[if_pos t1]
    rw[hT]
    have hw:=And.intro hkd (eq_false t1)
    repeat' first|exact hrd.1|exact hdl|exact hln|exact hrd2|simp only[PB,SA,seval,rdB,jaA,jaz,jau,jbc,jaS,jaT,jaB,jaC,jaD,jav,jag,jah,jad,jax,jas,jap,jaE,jaF,jaw,jaU,jaV,jaG,tq0,tq1,tq2]|simp only[hw]|simp only[hw4]|refine tT ?_|refine Cos.intro [] [0,1,2,3,4,5,6,7,8,9] rfl ?_|refine And.intro ?_ ?_|exact tC|(refine tI ?_;intro hyp)|intro hyp0|omega
    all_goals (simp[zeroR,jcr])
  ·have hT:(thG d 7 { s with a:=s.a+1 }).1=(cpsG d (s.a+1) s.k.toNat s.r.toNat s.L).1:=by
    change (th7 d { s with a:=s.a+1 }).1=_
    unfold th7
    split
    ·rfl
    ·rename_i q
     exact (Classical.not_not.mp q).symm
   rw[hT]at he ⊢
   have hw:=And.intro hkd (eq_false he)
   repeat' first|exact hrd.1|exact hdl|exact hln|exact hrd2|exact hsz|simp only[PB,SA,seval,rdB,jaA,jaz,jau,jbc,jaS,jaT,jaB,jaC,jaD,jav,jag,jah,jad,jax,jas,jap,jaE,jaF,jaw,jaU,jaV,jaG,tq0,tq1,tq2]|simp only[hw]|simp only[hw4]|refine tT ?_|refine Cos.intro [] [0,1,2,3,4,5,6,7,8,9] rfl ?_|refine And.intro ?_ ?_|exact tC|(refine tI ?_;intro hyp)|intro hyp0|omega
   all_goals (simp[zeroR,jcr])
  ·have hT:(thG d 8 { s with a:=s.a+1 }).1=(rnsG d (s.a+1) s.k.toNat s.more.length s.L).1:=by
    change (th8 d { s with a:=s.a+1 }).1=_
    unfold th8
    split
    ·rfl
    ·rename_i q
     exact (Classical.not_not.mp q).symm
   rw[hT]at he ⊢
   have hw:=And.intro hkd (eq_false he)
   repeat' first|exact hrd.1|exact hdl|exact hln|exact hrd2|exact hsz|simp only[PB,SA,seval,rdB,jaA,jaz,jau,jbc,jaS,jaT,jaB,jaC,jaD,jav,jag,jah,jad,jax,jas,jap,jaE,jaF,jaw,jaU,jaV,jaG,tq0,tq1,tq2]|simp only[hw]|simp only[hw4]|refine tT ?_|refine Cos.intro [] [0,1,2,3,4,5,6,7,8,9] rfl ?_|refine And.intro ?_ ?_|exact tC|(refine tI ?_;intro hyp)|intro hyp0|omega
   all_goals (simp[zeroR,jcr]))
end
end Go.Proofs.YtcfkfgkndncanaaGreatDoor
