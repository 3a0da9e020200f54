/- Texts of this claim, merged by a program of this claim: FQ4. -/
import Derived.Test.YtcfkfgkndncanaaGreatDoorMa34
import Derived.Test.YtcfkfgkndncanaaGreatDoorMa38
namespace Go.Proofs.YtcfkfgkndncanaaGreatDoor
set_option linter.unusedVariables false
set_option linter.unusedSimpArgs false
section
open Go.RowKit
set_option maxRecDepth 100000
set_option maxHeartbeats 4000000
theorem T.weakC {V:Env}{Q:EX→St→Prop}{s s':St}{c:LC}(hc:Cos V.n0 s s') (t:T V c Q s'):T V c Q s:=by
 obtain⟨ρ,fz,h⟩:=hc.ex
 exact T.weak ρ fz h t
theorem jAg {d:List Int}{kd:Int}{s:RS}(h:s.more=s.l) (hk:1≤kd∧kd≤4) (e:(thG d kd s).1=0):(thG d kd s).2.more=(thG d kd s).2.l:=by
 obtain rfl|rfl|rfl|rfl:kd=1∨kd=2∨kd=3∨kd=4:=by omega
 ·change (th1 d s).2.more=(th1 d s).2.l
  change (th1 d s).1=0 at e
  unfold th1 at e ⊢
  split at e
  ·rename_i q
   exact absurd e q
  rename_i q1
  rw[if_neg q1]
  split at e
  ·rename_i q
   exact absurd e q
  rename_i q2
  rw[if_neg q2]
  split at e
  ·cases e
  rename_i q3
  rw[if_neg q3]
 ·change (th2 d s).2.more=(th2 d s).2.l
  change (th2 d s).1=0 at e
  unfold th2 at e ⊢
  split at e
  ·rename_i q
   exact absurd e q
  rename_i q1
  rw[if_neg q1]
  split at e
  ·rename_i q
   exact absurd e q
  rename_i q2
  rw[if_neg q2]
  split at e
  ·rename_i q
   exact absurd e q
  rename_i q3
  rw[if_neg q3]
  exact h
 ·change (th3 d s).2.more=(th3 d s).2.l
  change (th3 d s).1=0 at e
  unfold th3 at e ⊢
  split at e
  ·rename_i q
   exact absurd e q
  rename_i q1
  rw[if_neg q1]
  exact h
 ·change (th4 d s).2.more=(th4 d s).2.l
  change (th4 d s).1=0 at e
  unfold th4 at e ⊢
  split at e
  ·rename_i q
   exact absurd e q
  rename_i q1
  rw[if_neg q1]
  exact h
theorem th_u {d:List Int}{kd:Int}{s:RS}(hk:6≤kd∧kd≤8):(thG d kd { s with l:=[] }).1=(thG d kd s).1∧(thG d kd { s with l:=[] }).2.k=(thG d kd s).2.k∧(thG d kd { s with l:=[] }).2.r=(thG d kd s).2.r∧(thG d kd { s with l:=[] }).2.L=(thG d kd s).2.L∧(thG d kd { s with l:=[] }).2.x=(thG d kd s).2.x∧(thG d kd { s with l:=[] }).2.y=(thG d kd s).2.y∧(thG d kd { s with l:=[] }).2.hd=(thG d kd s).2.hd∧(thG d kd { s with l:=[] }).2.mo=(thG d kd s).2.mo∧(thG d kd { s with l:=[] }).2.ti=(thG d kd s).2.ti∧(thG d kd { s with l:=[] }).2.more=(thG d kd s).2.more∧(thG d kd { s with l:=[] }).2.a=(thG d kd s).2.a:=by
 obtain rfl|rfl|rfl:kd=6∨kd=7∨kd=8:=by omega
 ·simp only[show ∀t,thG d 6 t=th6 d t from fun _=>rfl,th6]
  split
  ·exact⟨rfl,rfl,rfl,rfl,rfl,rfl,rfl,rfl,rfl,rfl,rfl⟩
  ·split<;>exact⟨rfl,rfl,rfl,rfl,rfl,rfl,rfl,rfl,rfl,rfl,rfl⟩
 ·simp only[show ∀t,thG d 7 t=th7 d t from fun _=>rfl,th7]
  split<;>exact⟨rfl,rfl,rfl,rfl,rfl,rfl,rfl,rfl,rfl,rfl,rfl⟩
 ·simp only[show ∀t,thG d 8 t=th8 d t from fun _=>rfl,th8]
  split<;>exact⟨rfl,rfl,rfl,rfl,rfl,rfl,rfl,rfl,rfl,rfl,rfl⟩
theorem th_l {d:List Int}{kd:Int}{s:RS}(hk:5≤kd∧kd≤8) (e:(thG d kd s).1=0):(thG d kd s).2.l=s.l:=by
 obtain rfl|rfl|rfl|rfl:kd=5∨kd=6∨kd=7∨kd=8:=by omega
 ·change (th5 d s).2.l=s.l
  change (th5 d s).1=0 at e
  unfold th5 at e ⊢
  split at e
  ·rename_i q
   exact absurd e q
  rename_i q
  rw[if_neg q]
 ·change (th6 d s).2.l=s.l
  change (th6 d s).1=0 at e
  unfold th6 at e ⊢
  split at e
  ·rename_i q
   exact absurd e q
  rename_i q1
  rw[if_neg q1]
  split at e
  ·cases e
  rename_i q2
  rw[if_neg q2]
 ·change (th7 d s).2.l=s.l
  change (th7 d s).1=0 at e
  unfold th7 at e ⊢
  split at e
  ·rename_i q
   exact absurd e q
  rename_i q
  rw[if_neg q]
 ·change (th8 d s).2.l=s.l
  change (th8 d s).1=0 at e
  unfold th8 at e ⊢
  split at e
  ·rename_i q
   exact absurd e q
  rename_i q
  rw[if_neg q]
def kd5:List CV→KH→Prop:=fun args _=>match args with
 | [_,.int _ k]=>k=5
 | _=>False
theorem jcu (a:CV) (k:Int) (h:KH):kd5 [a,.int .i64 k] h=(k=5):=rfl
def kd4:List CV→KH→Prop:=fun args _=>match args with
 | [_,.int _ k]=>k≤4
 | _=>False
theorem jcv (a:CV) (k:Int) (h:KH):kd4 [a,.int .i64 k] h=(k≤4):=rfl
abbrev joA (k:Int) (r:Int) (L:List CD) (x:Int) (y:Int) (hd:Bool) (mo:Int) (ti:ByteArray) (l:List ByteArray) (d:List Int):List CV:=[.agg [.int .i64 k,.int .i64 r,.vec .cell L,.int .i64 x,.int .i64 y,.bool hd,.int .u8 mo,.str ti,.vec .str l],.vec (.int .u8) d]
abbrev joB (k:Int) (r:Int) (L:List CD) (x:Int) (y:Int) (hd:Bool) (mo:Int) (ti:ByteArray) (l:List ByteArray) (d:List Int):Prop×Res:=(ScrOk L l∧SLen ti∧(∀c∈L,CWf c)∧d.length≤1000000∧Bts d,.ret (.tup [.agg [.int .i64 (apG d ⟨k,r,L,x,y,hd,mo,ti,l,[],0⟩).2.k,.int .i64 (apG d ⟨k,r,L,x,y,hd,mo,ti,l,[],0⟩).2.r,.vec .cell (apG d ⟨k,r,L,x,y,hd,mo,ti,l,[],0⟩).2.L,.int .i64 (apG d ⟨k,r,L,x,y,hd,mo,ti,l,[],0⟩).2.x,.int .i64 (apG d ⟨k,r,L,x,y,hd,mo,ti,l,[],0⟩).2.y,.bool (apG d ⟨k,r,L,x,y,hd,mo,ti,l,[],0⟩).2.hd,.int .u8 (apG d ⟨k,r,L,x,y,hd,mo,ti,l,[],0⟩).2.mo,.str (apG d ⟨k,r,L,x,y,hd,mo,ti,l,[],0⟩).2.ti,.vec .str (apG d ⟨k,r,L,x,y,hd,mo,ti,l,[],0⟩).2.more],.int .i64 (apG d ⟨k,r,L,x,y,hd,mo,ti,l,[],0⟩).1]))
noncomputable def sp_applyQ:Spec:=spOf (α:=Int×Int×(List CD)×Int×Int×Bool×Int×ByteArray×(List ByteArray)×(List Int)) (fun⟨k,r,L,x,y,hd,mo,ti,l,d⟩=>joA k r L x y hd mo ti l d) fun⟨k,r,L,x,y,hd,mo,ti,l,d⟩=>joB k r L x y hd mo ti l d
theorem jb2 (k:Int) (r:Int) (L:List CD) (x:Int) (y:Int) (hd:Bool) (mo:Int) (ti:ByteArray) (l:List ByteArray) (d:List Int):sp_applyQ (joA k r L x y hd mo ti l d)=some (joB k r L x y hd mo ti l d):=jaq _ injS (k,r,L,x,y,hd,mo,ti,l,d)
theorem jwT:Fresh Tryz.prog E0 11 sp_applyQ:=Fresh.of fun⟨k,r,L,x,y,hd,mo,ti,l,d⟩ hG=>TFD.intro (V:=(VV [(22,conF [.agg [.any,.any,.sl .cell,.any,.any,.any,.any,.any,.sl .str]] sp_eright),(24,conT [.sl .cell] sp_clone),(25,conT [.sl .str] sp_sclone),(26,conM msp_wnew),(27,conM msp_wleft),(28,conM msp_wnum1),(29,(conI kd5 (conP jjp esp_thing5) (conI kd4 (conP jjn esp_thingS) (conP jjr esp_thingD))))] (.cons (jaa jgh) (Fresh.soundF jwj) (.cons (jaa jbF) (Fresh.soundT jh1) (.cons (jaa jcQ) (Fresh.soundT jpF) (.cons (jaa jmq) (MutF.soundM jzD) (.cons (jaa jeL) (MutF.soundM jxN) (.cons (jaa jfc) (MutF.soundM jxO) (.cons (jaa jcc) (joo (MutP.soundP jwR) (joo (MutP.soundP jwQ) (MutP.soundP jwS))) GOk.nil))))))) 72 0)) jic rfl rfl (by
 dsimp only[joA,joB]at hG ⊢
 obtain⟨hsc,hti,hwf,hdl,hb⟩:=hG
 have hw:=And.intro hsc hti
 refine TD.pre rfl ?_
 repeat' first|simp only[PB,SA,MB,seval,rdB,ja0,jaj,jat,ja2,jaY,jaZ,jaL,jaM,jaH,jaI,jcv,jaJ,jaK,jcu,tq0,tq1,tq2]|simp only[hw]|refine tT ?_|refine And.intro ?_ ?_|exact tC|(refine tI ?_;intro hyp)|intro hyp0|omega
 refine TD.pre rfl ?_
 repeat' first|exact hsc|simp only[PB,SA,MB,seval,rdB,ja0,jaj,jat,ja2,jaY,jaZ,jaL,jaM,jaH,jaI,jcv,jaJ,jaK,jcu,tq0,tq1,tq2]|simp only[hw]|refine tT ?_|refine And.intro ?_ ?_|exact tC|(refine tI ?_;intro hyp)|intro hyp0|omega
 ·have hW:apG d ⟨k,r,L,x,y,hd,mo,ti,l,[],0⟩=(1,zeroR):=if_pos hyp
  rw[hW]
  refine Cos.intro [98,99] [] rfl ?_
  simp only[PB,SA,MB,seval,rdB,ja0,jaj,jat,ja2,jaY,jaZ,jaL,jaM,jaH,jaI,jcv,jaJ,jaK,jcu,tq0,tq1,tq2]
  simp[zeroR,jcr]
 ·obtain⟨hk,hr,hl,hle⟩:=ji2 (jgk hyp)
  have hl7:l.length≤1000000:=by
   have:=hsc.links
   omega
  have hl6:L.length≤1000000:=by omega
  refine TD.dfr [.ptr 1 0 0,.ptr 2 0 0] rfl rfl (fun h=>jA2 _ _ h) (fun D=>?_)
  repeat' first|exact hl6|exact hl7|exact hdl|simp only[PB,SA,MB,seval,rdB,ja0,jaj,jat,ja2,jaY,jaZ,jaL,jaM,jaH,jaI,jcv,jaJ,jaK,jcu,tq0,tq1,tq2]|simp only[hw]|refine tT ?_|refine And.intro ?_ ?_|exact tC|(refine tI ?_;intro hyp)|intro hyp0|omega
  generalize hW:goG d 9 0 ⟨k,r,L,x,y,hd,mo,ti,l,l,0⟩=W
  refine T.loop (fun q:Nat×Int×RS=>if q.2.1<5 then ⟨[(4,.ptr 1 0 0),(5,.ptr 2 0 0),(6,.ptr 3 0 0),(7,.int .i64 q.2.1)],[.dead,.box [.int .i64 0,.int .i64 0,.nils,.int .i64 0,.int .i64 0,.bool false,.int .u8 0,.str (bs []),.nils],.box [.int .i64 0],.box [.ptr 4 0 0,.int .i64 q.2.2.k,.int .i64 q.2.2.r,.slice 5 0 6 q.2.2.L.length q.2.2.L.length,.int .i64 q.2.2.x,.int .i64 q.2.2.y,.bool q.2.2.hd,.int .u8 q.2.2.mo,.str q.2.2.ti,.slice 6 0 1 q.2.2.l.length q.2.2.l.length,.slice 6 0 1 q.2.2.l.length q.2.2.l.length],rdr d q.2.2.a 0,.seq .cell q.2.2.L,.seq .str q.2.2.l]⟩ else ⟨[(4,.ptr 1 0 0),(5,.ptr 2 0 0),(6,.ptr 3 0 0),(7,.int .i64 q.2.1)],[.dead,.box [.int .i64 0,.int .i64 0,.nils,.int .i64 0,.int .i64 0,.bool false,.int .u8 0,.str (bs []),.nils],.box [.int .i64 0],.box [.ptr 4 0 0,.int .i64 q.2.2.k,.int .i64 q.2.2.r,.slice 5 0 6 q.2.2.L.length q.2.2.L.length,.int .i64 q.2.2.x,.int .i64 q.2.2.y,.bool q.2.2.hd,.int .u8 q.2.2.mo,.str q.2.2.ti,.slice 6 0 1 q.2.2.l.length q.2.2.l.length,.slice 7 0 1 q.2.2.more.length q.2.2.more.length],rdr d q.2.2.a 0,.seq .cell q.2.2.L,.dead,.seq .str q.2.2.more]⟩) (fun q=>8-q.2.1<q.1∧(0≤q.2.1∧q.2.1≤8)∧Kept d q.2.1 q.2.2∧(q.2.1<5→q.2.2.more=q.2.2.l)∧goG d q.1 q.2.1 q.2.2=W) (fun q=>q.1) (9,0,⟨k,r,L,x,y,hd,mo,ti,l,l,0⟩) ?_ (by rw[if_pos (show (0:Int)<5 by decide)];exact Cos.intro [0,1,2,6,5,3,4] [] rfl (by (simp only[PB,SA,MB,seval,rdB,ja0,jaj,jat,ja2,jaY,jaZ,jaL,jaM,jaH,jaI,jcv,jaJ,jaK,jcu,tq0,tq1,tq2]<;>exact tE))) (fun q hq=>?_)
  ·obtain⟨hz,h16,hlk⟩:=ji5 hyp
   exact⟨by dsimp only;omega,⟨by dsimp only;omega,by dsimp only;omega⟩,⟨⟨Nat.zero_le _,hdl,hb⟩,hz,h16,h16,hwf,fun _=>hlk,fun _=>jgk hyp,hsc.slen,hti,hsc.slen⟩,fun _=>rfl,hW⟩
  ·obtain⟨f,last,s⟩:=q
   obtain⟨hf,⟨h0,h8⟩,hK,hm,hg⟩:=hq
   dsimp only at hf h0 h8 hK hg hm
   cases f with
   | zero=>omega
   | succ f =>
   simp only[goG]at hg
   have hrd:=hK.rd
   by_cases hph:last<5∧¬(s.a<d.length∧6≤d.getD s.a 0∧d.getD s.a 0≤8)
   ·replace hm:=hm hph.1
    dsimp only
    rw[if_pos hph.1]
    by_cases ha:d.length≤s.a
    ·rw[if_pos ha]at hg
     subst hg
     have hsk:ScrOk s.L s.l:=⟨hK.wf,by have:=hK.sz.le;omega,by have:=hK.nm;rw[hm]at this;omega,hm▸hK.sl⟩
     by_cases hR:jb5 s.k s.r s.L s.x s.y s.mo s.ti s.l=true
     ·rw[jsI (d:=d) (s:=⟨k,r,L,x,y,hd,mo,ti,l,[],0⟩) hyp hW (by rw[hm];exact hR)]
      have hw:=And.intro hR hm
      repeat' first|exact hrd.1|exact hdl|exact hsk|exact hK.st|simp only[PB,SA,MB,seval,rdB,ja0,jaj,jat,ja2,jaY,jaZ,jaL,jaM,jaH,jaI,jcv,jaJ,jaK,jcu,tq0,tq1,tq2]|simp only[hw]|refine tT ?_|refine Cos.intro [5,6] [] rfl ?_|refine And.intro ?_ ?_|exact tC|(refine tI ?_;intro hyp)|intro hyp0|omega
     ·have hR2:=Bool.eq_false_iff.2 hR
      rw[jom (d:=d) (s:=⟨k,r,L,x,y,hd,mo,ti,l,[],0⟩) hyp hW (by rw[hm];exact hR2)]
      have hw:=hR2
      repeat' first|exact hrd.1|exact hdl|exact hsk|exact hK.st|simp only[PB,SA,MB,seval,rdB,ja0,jaj,jat,ja2,jaY,jaZ,jaL,jaM,jaH,jaI,jcv,jaJ,jaK,jcu,tq0,tq1,tq2]|simp only[hw]|refine tT ?_|refine Cos.intro [98,99] [] rfl ?_|refine And.intro ?_ ?_|exact tC|(refine tI ?_;intro hyp)|intro hyp0|omega
      all_goals (simp[zeroR,jcr])
    rw[if_neg ha]at hg
    obtain⟨kd,hkd⟩:∃kd,d.getD s.a 0=kd:=⟨_,rfl⟩
    rw[hkd]at hg hph
    have hln:s.a<d.length:=by omega
    have hkb:0≤kd∧kd<256:=by
     rw[←hkd]
     exact hrd.2.2 _ (jed (d:=0) hln)
    by_cases h9:kd≤last∨8<kd
    ·rw[if_pos h9]at hg
     subst hg
     rw[jgl (d:=d) (s:=⟨k,r,L,x,y,hd,mo,ti,l,[],0⟩) hyp hW (by decide)]
     have hw:=And.intro hkd (jf0 (n:=kd) (by omega))
     repeat' first|exact hrd.1|exact hdl|exact hln|exact hb|simp only[PB,SA,MB,seval,rdB,ja0,jaj,jat,ja2,jaY,jaZ,jaL,jaM,jaH,jaI,jcv,jaJ,jaK,jcu,tq0,tq1,tq2]|simp only[hw]|refine tT ?_|refine And.intro ?_ ?_|exact tC|(refine tI ?_;intro hyp)|intro hyp0|omega
     refine⟨_,jlM _ _ _ _,?_⟩
     repeat' first|simp only[PB,SA,MB,seval,rdB,ja0,jaj,jat,ja2,jaY,jaZ,jaL,jaM,jaH,jaI,jcv,jaJ,jaK,jcu,tq0,tq1,tq2]|simp only[hw]|refine tT ?_|refine Cos.intro [98,99] [] rfl ?_|refine And.intro ?_ ?_|exact tC|(refine tI ?_;intro hyp)|intro hyp0|omega
     all_goals (simp[zeroR,jcr])
    rw[if_neg h9]at hg
    have hK2:=hK.next hln
    obtain⟨⟨k1,k2⟩,⟨r1,r2⟩,hLl⟩:=hK.sz
    have hnl:=hK.nl
    have hnm:=hK.nm
    have hwfK:=hK.wf
    have hrd2:=hK2.rd
    have hlk:kd≤5→∀c∈s.L,c.link≤s.l.length:=fun q=>hK.lk (by omega)
    have hlk5:=hK.lk (by omega)
    have hgr:kd≤6→jcI s.k s.r s.L=true:=fun q=>hK.gr (by omega)
    have hgr5:=hK.gr (by omega)
    rw[hm]at hg hK2
    by_cases h4:kd≤4
    ·have hn5:¬kd=5:=by omega
     by_cases he:(thG d kd ⟨s.k,s.r,s.L,s.x,s.y,s.hd,s.mo,s.ti,s.l,s.l,s.a+1⟩).1=0
     ·rw[if_neg (by rw[he];decide)]at hg
      have hK3:=jwI hK2 (show last<kd by omega) (by omega) he
      have hsm:=jAg (d:=d) (kd:=kd) (s:=⟨s.k,s.r,s.L,s.x,s.y,s.hd,s.mo,s.ti,s.l,s.l,s.a+1⟩) rfl (by omega) he
      have hw:=(And.intro hkd (And.intro (jf0 (n:=kd) (by omega)) (And.intro he (And.intro (eq_false hn5) (eq_true h4)))))
      repeat' first|exact hrd.1|exact hdl|exact hln|exact hb|exact hrd2|exact hLl|exact hwfK _ ‹_›|exact hlk (by assumption) _ ‹_›|exact hlk5 _ ‹_›|exact hgr5|exact hgr (by assumption)|simp only[PB,SA,MB,seval,rdB,ja0,jaj,jat,ja2,jaY,jaZ,jaL,jaM,jaH,jaI,jcv,jaJ,jaK,jcu,tq0,tq1,tq2]|simp only[hw]|refine tT ?_|refine And.intro ?_ ?_|exact tC|(refine tI ?_;intro hyp)|intro hyp0|omega
      refine⟨(f,kd,(thG d kd ⟨s.k,s.r,s.L,s.x,s.y,s.hd,s.mo,s.ti,s.l,s.l,s.a+1⟩).2),⟨by dsimp only;omega,⟨by dsimp only;omega,by dsimp only;omega⟩,hK3,fun _=>hsm,hg⟩,Nat.lt_succ_self _,?_⟩
      dsimp only
      rw[if_pos (show kd<5 by omega)]
      exact Cos.intro [0,1,2,3,4,8,7] [] rfl (by (simp only[PB,SA,MB,seval,rdB,ja0,jaj,jat,ja2,jaY,jaZ,jaL,jaM,jaH,jaI,jcv,jaJ,jaK,jcu,tq0,tq1,tq2]<;>exact tE))
     ·rw[if_pos he]at hg
      subst hg
      rw[jgl (d:=d) (s:=⟨k,r,L,x,y,hd,mo,ti,l,[],0⟩) hyp hW he]
      have hw:=And.intro hkd (And.intro (jf0 (n:=kd) (by omega)) (And.intro (eq_false he) (And.intro (eq_false hn5) (eq_true h4))))
      repeat' first|exact hrd.1|exact hdl|exact hln|exact hb|exact hrd2|exact hLl|exact hwfK _ ‹_›|exact hlk (by assumption) _ ‹_›|exact hlk5 _ ‹_›|exact hgr5|exact hgr (by assumption)|simp only[PB,SA,MB,seval,rdB,ja0,jaj,jat,ja2,jaY,jaZ,jaL,jaM,jaH,jaI,jcv,jaJ,jaK,jcu,tq0,tq1,tq2]|simp only[hw]|refine tT ?_|refine And.intro ?_ ?_|exact tC|(refine tI ?_;intro hyp)|intro hyp0|omega
      refine⟨_,jlM _ _ _ _,?_⟩
      repeat' first|simp only[PB,SA,MB,seval,rdB,ja0,jaj,jat,ja2,jaY,jaZ,jaL,jaM,jaH,jaI,jcv,jaJ,jaK,jcu,tq0,tq1,tq2]|simp only[hw]|refine tT ?_|refine Cos.intro [98,99] [] rfl ?_|refine And.intro ?_ ?_|exact tC|(refine tI ?_;intro hyp)|intro hyp0|omega
      all_goals (simp[zeroR,jcr])
    ·obtain rfl:kd=5:=by omega
     have hn4:¬(5:Int)≤4:=by decide
     by_cases he:(thG d 5 ⟨s.k,s.r,s.L,s.x,s.y,s.hd,s.mo,s.ti,s.l,s.l,s.a+1⟩).1=0
     ·rw[if_neg (by rw[he];decide)]at hg
      have hK3:=jwI hK2 (show last<5 by omega) (by omega) he
      have hw:=(And.intro hkd (And.intro (jf0 (n:=(5:Int)) (by omega)) he))
      repeat' first|exact hrd.1|exact hdl|exact hln|exact hb|exact hrd2|exact hLl|exact hwfK _ ‹_›|exact hlk (by assumption) _ ‹_›|exact hlk5 _ ‹_›|exact hgr5|exact hgr (by assumption)|simp only[PB,SA,MB,seval,rdB,ja0,jaj,jat,ja2,jaY,jaZ,jaL,jaM,jaH,jaI,jcv,jaJ,jaK,jcu,tq0,tq1,tq2]|simp only[hw]|refine tT ?_|refine And.intro ?_ ?_|exact tC|(refine tI ?_;intro hyp)|intro hyp0|omega
      refine⟨(f,5,(thG d 5 ⟨s.k,s.r,s.L,s.x,s.y,s.hd,s.mo,s.ti,s.l,s.l,s.a+1⟩).2),⟨by dsimp only;omega,⟨by dsimp only;omega,by dsimp only;omega⟩,hK3,fun q=>absurd q (show ¬(5:Int)<5 by decide),hg⟩,Nat.lt_succ_self _,?_⟩
      dsimp only
      rw[if_neg (show ¬(5:Int)<5 by decide)]
      rw[th_l (by decide) he]
      exact Cos.intro [0,1,2,3,4,8,6,7] [] rfl (by (simp only[PB,SA,MB,seval,rdB,ja0,jaj,jat,ja2,jaY,jaZ,jaL,jaM,jaH,jaI,jcv,jaJ,jaK,jcu,tq0,tq1,tq2]<;>exact tE))
     ·rw[if_pos he]at hg
      subst hg
      rw[jgl (d:=d) (s:=⟨k,r,L,x,y,hd,mo,ti,l,[],0⟩) hyp hW he]
      have hw:=And.intro hkd (And.intro (jf0 (n:=(5:Int)) (by omega)) (eq_false he))
      repeat' first|exact hrd.1|exact hdl|exact hln|exact hb|exact hrd2|exact hLl|exact hwfK _ ‹_›|exact hlk (by assumption) _ ‹_›|exact hlk5 _ ‹_›|exact hgr5|exact hgr (by assumption)|simp only[PB,SA,MB,seval,rdB,ja0,jaj,jat,ja2,jaY,jaZ,jaL,jaM,jaH,jaI,jcv,jaJ,jaK,jcu,tq0,tq1,tq2]|simp only[hw]|refine tT ?_|refine And.intro ?_ ?_|exact tC|(refine tI ?_;intro hyp)|intro hyp0|omega
      refine⟨_,jlM _ _ _ _,?_⟩
      repeat' first|simp only[PB,SA,MB,seval,rdB,ja0,jaj,jat,ja2,jaY,jaZ,jaL,jaM,jaH,jaI,jcv,jaJ,jaK,jcu,tq0,tq1,tq2]|simp only[hw]|refine tT ?_|refine Cos.intro [98,99] [] rfl ?_|refine And.intro ?_ ?_|exact tC|(refine tI ?_;intro hyp)|intro hyp0|omega
      all_goals (simp[zeroR,jcr])
   ·suffices hT:∀st:St,st=(fun q:Nat×Int×RS=>(⟨[(4,.ptr 1 0 0),(5,.ptr 2 0 0),(6,.ptr 3 0 0),(7,.int .i64 q.2.1)],[.dead,.box [.int .i64 0,.int .i64 0,.nils,.int .i64 0,.int .i64 0,.bool false,.int .u8 0,.str (bs []),.nils],.box [.int .i64 0],.box [.ptr 4 0 0,.int .i64 q.2.2.k,.int .i64 q.2.2.r,.slice 5 0 6 q.2.2.L.length q.2.2.L.length,.int .i64 q.2.2.x,.int .i64 q.2.2.y,.bool q.2.2.hd,.int .u8 q.2.2.mo,.str q.2.2.ti,.slice 6 0 1 q.2.2.l.length q.2.2.l.length,.slice 7 0 1 q.2.2.more.length q.2.2.more.length],rdr d q.2.2.a 0,.seq .cell q.2.2.L,.dead,.seq .str q.2.2.more]⟩:St)) (f+1,last,s)→T _ _ _ st by
     dsimp only
     by_cases h5:last<5
     ·rw[if_pos h5]
      refine T.weakC ?_ (hT _ rfl)
      replace hm:=hm h5
      dsimp only
      rw[hm]
      exact Cos.intro [0,1,2,3,4,5,6,6] [] rfl (by (simp only[PB,SA,MB,seval,rdB,ja0,jaj,jat,ja2,jaY,jaZ,jaL,jaM,jaH,jaI,jcv,jaJ,jaK,jcu,tq0,tq1,tq2]<;>exact tE))
     ·rw[if_neg h5]
      exact hT _ rfl
    intro st hst
    subst hst
    dsimp only
    by_cases ha:d.length≤s.a
    ·rw[if_pos ha]at hg
     subst hg
     have hsk:ScrOk s.L s.more:=⟨hK.wf,by have:=hK.sz.le;omega,by have:=hK.nm;omega,hK.sl⟩
     by_cases hR:jb5 s.k s.r s.L s.x s.y s.mo s.ti s.more=true
     ·rw[jsI (d:=d) (s:=⟨k,r,L,x,y,hd,mo,ti,l,[],0⟩) hyp hW (by exact hR)]
      have hw:=And.intro hR trivial
      repeat' first|exact hrd.1|exact hdl|exact hsk|exact hK.st|simp only[PB,SA,MB,seval,rdB,ja0,jaj,jat,ja2,jaY,jaZ,jaL,jaM,jaH,jaI,jcv,jaJ,jaK,jcu,tq0,tq1,tq2]|simp only[hw]|refine tT ?_|refine Cos.intro [5,7] [] rfl ?_|refine And.intro ?_ ?_|exact tC|(refine tI ?_;intro hyp)|intro hyp0|omega
     ·have hR2:=Bool.eq_false_iff.2 hR
      rw[jom (d:=d) (s:=⟨k,r,L,x,y,hd,mo,ti,l,[],0⟩) hyp hW (by exact hR2)]
      have hw:=hR2
      repeat' first|exact hrd.1|exact hdl|exact hsk|exact hK.st|simp only[PB,SA,MB,seval,rdB,ja0,jaj,jat,ja2,jaY,jaZ,jaL,jaM,jaH,jaI,jcv,jaJ,jaK,jcu,tq0,tq1,tq2]|simp only[hw]|refine tT ?_|refine Cos.intro [98,99] [] rfl ?_|refine And.intro ?_ ?_|exact tC|(refine tI ?_;intro hyp)|intro hyp0|omega
      all_goals (simp[zeroR,jcr])
    rw[if_neg ha]at hg
    obtain⟨kd,hkd⟩:∃kd,d.getD s.a 0=kd:=⟨_,rfl⟩
    rw[hkd]at hg hph
    have hln:s.a<d.length:=by omega
    have hkb:0≤kd∧kd<256:=by
     rw[←hkd]
     exact hrd.2.2 _ (jed (d:=0) hln)
    by_cases h9:kd≤last∨8<kd
    ·rw[if_pos h9]at hg
     subst hg
     rw[jgl (d:=d) (s:=⟨k,r,L,x,y,hd,mo,ti,l,[],0⟩) hyp hW (by decide)]
     have hw:=And.intro hkd (jf0 (n:=kd) (by omega))
     repeat' first|exact hrd.1|exact hdl|exact hln|exact hb|simp only[PB,SA,MB,seval,rdB,ja0,jaj,jat,ja2,jaY,jaZ,jaL,jaM,jaH,jaI,jcv,jaJ,jaK,jcu,tq0,tq1,tq2]|simp only[hw]|refine tT ?_|refine And.intro ?_ ?_|exact tC|(refine tI ?_;intro hyp)|intro hyp0|omega
     refine⟨_,jlM _ _ _ _,?_⟩
     repeat' first|simp only[PB,SA,MB,seval,rdB,ja0,jaj,jat,ja2,jaY,jaZ,jaL,jaM,jaH,jaI,jcv,jaJ,jaK,jcu,tq0,tq1,tq2]|simp only[hw]|refine tT ?_|refine Cos.intro [98,99] [] rfl ?_|refine And.intro ?_ ?_|exact tC|(refine tI ?_;intro hyp)|intro hyp0|omega
     all_goals (simp[zeroR,jcr])
    rw[if_neg h9]at hg
    have hK2:=hK.next hln
    obtain⟨⟨k1,k2⟩,⟨r1,r2⟩,hLl⟩:=hK.sz
    have hnl:=hK.nl
    have hnm:=hK.nm
    have hwfK:=hK.wf
    have hrd2:=hK2.rd
    have hlk:True:=trivial
    have hgr:kd≤6→jcI s.k s.r s.L=true:=fun q=>hK.gr (by omega)
    have h6:6≤kd∧kd≤8:=by omega
    have hn5:¬kd=5:=by omega
    have hn4:¬kd≤4:=by omega
    have hu:=th_u (d:=d) (kd:=kd) (s:=⟨s.k,s.r,s.L,s.x,s.y,s.hd,s.mo,s.ti,s.l,s.more,s.a+1⟩) h6
    dsimp only at hu
    by_cases he:(thG d kd ⟨s.k,s.r,s.L,s.x,s.y,s.hd,s.mo,s.ti,s.l,s.more,s.a+1⟩).1=0
    ·rw[if_neg (by rw[he];decide)]at hg
     have hK3:=jwI hK2 (show last<kd by omega) (by omega) he
     have hw:=(And.intro hkd (And.intro (jf0 (n:=kd) (by omega)) (And.intro hu (And.intro he (And.intro (eq_false hn5) (eq_false hn4))))))
     repeat' first|exact hrd.1|exact hdl|exact hln|exact hb|exact hrd2|exact hLl|exact hwfK _ ‹_›|exact hgr (by assumption)|simp only[PB,SA,MB,seval,rdB,ja0,jaj,jat,ja2,jaY,jaZ,jaL,jaM,jaH,jaI,jcv,jaJ,jaK,jcu,tq0,tq1,tq2]|simp only[hw]|refine tT ?_|refine And.intro ?_ ?_|exact tC|(refine tI ?_;intro hyp)|intro hyp0|omega
     refine⟨(f,kd,(thG d kd ⟨s.k,s.r,s.L,s.x,s.y,s.hd,s.mo,s.ti,s.l,s.more,s.a+1⟩).2),⟨by dsimp only;omega,⟨by dsimp only;omega,by dsimp only;omega⟩,hK3,fun q=>absurd q (by dsimp only;omega),hg⟩,Nat.lt_succ_self _,?_⟩
     dsimp only
     rw[if_neg (show ¬kd<5 by omega)]
     rw[th_l (by omega) he]
     exact Cos.intro [0,1,2,3,4,9,6,8] [] rfl (by (simp only[PB,SA,MB,seval,rdB,ja0,jaj,jat,ja2,jaY,jaZ,jaL,jaM,jaH,jaI,jcv,jaJ,jaK,jcu,tq0,tq1,tq2]<;>exact tE))
    ·rw[if_pos he]at hg
     subst hg
     rw[jgl (d:=d) (s:=⟨k,r,L,x,y,hd,mo,ti,l,[],0⟩) hyp hW he]
     have hw:=And.intro hkd (And.intro (jf0 (n:=kd) (by omega)) (And.intro hu (And.intro (eq_false he) (And.intro (eq_false hn5) (eq_false hn4)))))
     repeat' first|exact hrd.1|exact hdl|exact hln|exact hb|exact hrd2|exact hLl|exact hwfK _ ‹_›|exact hgr (by assumption)|simp only[PB,SA,MB,seval,rdB,ja0,jaj,jat,ja2,jaY,jaZ,jaL,jaM,jaH,jaI,jcv,jaJ,jaK,jcu,tq0,tq1,tq2]|simp only[hw]|refine tT ?_|refine And.intro ?_ ?_|exact tC|(refine tI ?_;intro hyp)|intro hyp0|omega
     refine⟨_,jlM _ _ _ _,?_⟩
     repeat' first|simp only[PB,SA,MB,seval,rdB,ja0,jaj,jat,ja2,jaY,jaZ,jaL,jaM,jaH,jaI,jcv,jaJ,jaK,jcu,tq0,tq1,tq2]|simp only[hw]|refine tT ?_|refine Cos.intro [98,99] [] rfl ?_|refine And.intro ?_ ?_|exact tC|(refine tI ?_;intro hyp)|intro hyp0|omega
     all_goals (simp[zeroR,jcr]))
end
end Go.Proofs.YtcfkfgkndncanaaGreatDoor
