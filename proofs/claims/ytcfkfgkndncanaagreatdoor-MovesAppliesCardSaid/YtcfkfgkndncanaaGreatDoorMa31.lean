/- Texts of this claim, merged by a program of this claim: FTerm. -/
import Derived.Test.YtcfkfgkndncanaaGreatDoorMa23
import Derived.Test.YtcfkfgkndncanaaGreatDoorMa28
import Derived.Test.YtcfkfgkndncanaaGreatDoorMa30
namespace Go.Proofs.YtcfkfgkndncanaaGreatDoor
set_option linter.unusedVariables false
set_option linter.unusedSimpArgs false
section
open Go.RowKit
set_option maxRecDepth 100000
set_option maxHeartbeats 4000000
def jdC (tb:List Bool):List CV:=(List.range 80).map fun i=>.bool (tb.getD i false)
theorem jeB:List.replicate 80 (CV.bool false)=jdC []:=rfl
theorem jbp (tb:List Bool):(jdC tb).length=80:=by simp[jdC]
theorem jbx (tb:List Bool) (n:Nat) (B:List CV):List.take (n+80) (jdC tb++B)=jdC tb++List.take n B:=by
 rw[List.take_append,jbp,List.take_of_length_le (by rw[jbp];omega),Nat.add_sub_cancel]
theorem jby (tb:List Bool) (n:Nat) (B:List CV):List.drop (n+80) (jdC tb++B)=List.drop n B:=by
 rw[List.drop_append,jbp,List.drop_of_length_le (by rw[jbp];omega),Nat.add_sub_cancel,List.nil_append]
theorem jbN (tb:List Bool) (n:Nat) (B:List CV):(jdC tb++B)[n+80]?=B[n]?:=by
 rw[List.getElem?_append_right (by rw[jbp];omega),jbp,Nat.add_sub_cancel]
theorem jbO (tb:List Bool) (n:Nat) (B:List CV) (v:CV):(jdC tb++B).set (n+80) v=jdC tb++B.set n v:=by
 rw[List.set_append_right _ _ (by rw[jbp];omega),jbp,Nat.add_sub_cancel]
theorem jsF (f:Nat→Bool):∀(l:List Nat) (B:List CV),jdH ((l.map fun i=>CV.bool (f i))++B)=jdH B
 | [],B=>rfl
 | a::l,B=>by
  simp only[List.map_cons,List.cons_append,jdH,jdX,List.nil_append]
  exact jsF f l B
theorem jbz (tb:List Bool) (B:List CV):jdH (jdC tb++B)=jdH B:=jsF _ _ B
theorem jwn (ρ:List Nat) (f:Nat→Bool):∀(l:List Nat) (B:List CV),locL ρ ((l.map fun i=>CV.bool (f i))++B)=(l.map fun i=>CV.bool (f i))++locL ρ B
 | [],B=>rfl
 | a::l,B=>by
  simp only[List.map_cons,List.cons_append,locL,locV]
  rw[jwn ρ f l B]
theorem jbP (ρ:List Nat) (tb:List Bool) (B:List CV):locL ρ (jdC tb++B)=jdC tb++locL ρ B:=jwn ρ _ _ B
theorem jwo (σ:Nat→Nat) (f:Nat→Bool):∀(l:List Nat) (B:List CV),renL σ ((l.map fun i=>CV.bool (f i))++B)=(l.map fun i=>CV.bool (f i))++renL σ B
 | [],B=>rfl
 | a::l,B=>by
  simp only[List.map_cons,List.cons_append,renL,renV]
  rw[jwo σ f l B]
theorem jbQ (σ:Nat→Nat) (tb:List Bool) (B:List CV):renL σ (jdC tb++B)=jdC tb++renL σ B:=jwo σ _ _ B
theorem jwp (ρ fz:List Nat) (h:KH) (f:Nat→Bool):∀(l:List Nat) (A B:List CV),crsL ρ fz h ((l.map fun i=>CV.bool (f i))++A) ((l.map fun i=>CV.bool (f i))++B)=crsL ρ fz h A B
 | [],A,B=>rfl
 | a::l,A,B=>by
  simp only[List.map_cons,List.cons_append,crsL,crs,true_and]
  exact jwp ρ fz h f l A B
theorem jbR (ρ fz:List Nat) (h:KH) (tb:List Bool) (A B:List CV):crsL ρ fz h (jdC tb++A) (jdC tb++B)=crsL ρ fz h A B:=jwp ρ fz h _ _ A B
def jsG (tb:List Bool) (i:Nat) (v:Bool):List Bool:=((List.range 80).map fun j=>tb.getD j false).set i v
theorem jyk {tb:List Bool}{i:Nat}{v:Bool}{B:List CV}(h:i<80):(jdC tb++B).set i (.bool v)=jdC (jsG tb i v)++B:=by
 rw[List.set_append_left _ _ (by rw[jbp];exact h)]
 congr 1
 refine List.ext_getElem? fun j=>?_
 unfold jdC jsG
 rw[List.getElem?_set,List.getElem?_map,List.getElem?_map]
 by_cases hj:j<80
 ·rw[List.getElem?_range hj]
  simp only[Option.map_some,List.length_map,List.length_range,List.getD_eq_getElem?_getD,List.getElem?_set]
  by_cases e:i=j
  ·subst e
   simp[h]
  ·simp[e,hj]
 ·rw[List.getElem?_eq_none (show (List.range 80).length≤j by simp;omega)]
  simp only[Option.map_none]
  rw[if_neg (by omega)]
def jfn:Nat→List Bool
 | 0=>[]
 | i+1=>jsG (jfn i) i (decide (i % 8=0)&&decide (0<i))
abbrev jwq:List CV:=[]
abbrev jwr:KH:=[]
abbrev f_unew:Prop×Res×KH:=(True,.ret (.ptr 0 0 0),[.box [.int .i64 0,.int .i32 0,.int .u8 0,.int .u8 0]])
noncomputable def msp_unew:MSpec:=jcH (α:=Unit) (fun _=>(jwq,jwr)) fun _=>f_unew
theorem jrp:msp_unew jwq jwr=some f_unew:=jbn _ (fun _ _ _=>rfl) ()
theorem jz9:MutF Tryz.prog E0 128 msp_unew:=MutF.of fun _ hG=>TF.intro (V:=(VV [] GOk.nil 3 0)) jlD rfl rfl (by
 dsimp only[jwq,jwr,f_unew]at hG ⊢
 repeat' first|simp only[SA,MB,seval,rdB,jeB,jbp,jbx,jby,jbN,jbO,jbz,jbP,jbQ,jbR]|refine tT ?_|refine Cos.intro [0] [] rfl ?_|refine And.intro ?_ ?_|exact tC|(refine tI ?_;intro hyp)|intro hyp0|omega)
abbrev jws:List CV:=[]
abbrev jwt:KH:=[]
abbrev f_pnew:Prop×Res×KH:=(True,.ret (.ptr 0 0 0),[.box [.ptr 1 0 0,.int .i64 0,.bool false,.int .u8 0,.bool false,.nils,.nils,.bool false],.box [.int .i64 0,.int .i32 0,.int .u8 0,.int .u8 0]])
noncomputable def msp_pnew:MSpec:=jcH (α:=Unit) (fun _=>(jws,jwt)) fun _=>f_pnew
theorem jlE:msp_pnew jws jwt=some f_pnew:=jbn _ (fun _ _ _=>rfl) ()
theorem jAa:MutF Tryz.prog E0 120 msp_pnew:=MutF.of fun _ hG=>TF.intro (V:=(VV [(128,conM msp_unew)] (.cons (jaa jlD) (MutF.soundM jz9) GOk.nil) 4 0)) jhy rfl rfl (by
 dsimp only[jws,jwt,f_pnew]at hG ⊢
 repeat' first|simp only[SA,MB,seval,rdB,jrp,jeB,jbp,jbx,jby,jbN,jbO,jbz,jbP,jbQ,jbR]|refine tT ?_|refine Cos.intro [1,0] [] rfl ?_|refine And.intro ?_ ?_|exact tC|(refine tI ?_;intro hyp)|intro hyp0|omega)
abbrev jrq (k:Int) (r:Int) (L:List CD) (M:List CD):List CV:=[.ptr 0 0 0]
abbrev jrr (k:Int) (r:Int) (L:List CD) (M:List CD):KH:=[.box ((.int .i64 0)::(.int .i64 0)::(.int .u32 0)::(.int .u32 0)::(.int .u8 0)::(.int .u16 0)::(.bool false)::(.int .i64 k)::(.int .i64 r)::(.int .i64 k)::(.int .i64 r)::(.vec .cell L)::(.int .i64 k)::(.int .i64 r)::(.vec .cell M)::(.int .i64 0)::(.bool false)::(.int .i64 0)::(.int .i64 0)::(.bool true)::(.bool false)::(.bool false)::(.int .u8 0)::(jdC []++[.int .i64 0,.int .i64 0,.int .u32 0,.int .u32 0,.int .u8 0,.int .u16 0,.bool false,.str (bs []),.nils,.int .i32 0,.ptr 1 0 0])),.box [.ptr 2 0 0,.int .i64 0,.bool false,.int .u8 0,.bool false,.nils,.nils,.bool false],.box [.int .i64 0,.int .i32 0,.int .u8 0,.int .u8 0]]
abbrev jrs (k:Int) (r:Int) (L:List CD) (M:List CD):Prop×Res×KH:=(1≤r∧r≤100,.ret .undef,[.box ((.int .i64 0)::(.int .i64 0)::(.int .u32 0)::(.int .u32 0)::(.int .u8 0)::(.int .u16 0)::(.bool false)::(.int .i64 k)::(.int .i64 r)::(.int .i64 k)::(.int .i64 r)::(.vec .cell L)::(.int .i64 k)::(.int .i64 r)::(.vec .cell M)::(.int .i64 0)::(.bool false)::(.int .i64 0)::(.int .i64 (r-1))::(.bool true)::(.bool false)::(.bool false)::(.int .u8 0)::(jdC (jfn 80)++[.int .i64 0,.int .i64 0,.int .u32 0,.int .u32 0,.int .u8 0,.int .u16 0,.bool false,.str (bs []),.nils,.int .i32 0,.ptr 1 0 0])),.box [.ptr 2 0 0,.int .i64 0,.bool false,.int .u8 0,.bool false,.nils,.nils,.bool false],.box [.int .i64 0,.int .i32 0,.int .u8 0,.int .u8 0]])
noncomputable def msp_frame:MSpec:=jcH (α:=Int×Int×(List CD)×(List CD)) (fun⟨k,r,L,M⟩=>(jrq k r L M,jrr k r L M)) fun⟨k,r,L,M⟩=>jrs k r L M
theorem jjU (k:Int) (r:Int) (L:List CD) (M:List CD):msp_frame (jrq k r L M) (jrr k r L M)=some (jrs k r L M):=jbn _ injM (k,r,L,M)
theorem jyl:MutF Tryz.prog E0 121 msp_frame:=MutF.of fun⟨k,r,L,M⟩ hG=>TF.intro (V:=(VV [] GOk.nil 30 3)) jdB rfl rfl (by
 dsimp only[jrq,jrr,jrs]at hG ⊢
 have hr:=hG
 repeat' first|simp only[SA,MB,seval,rdB,jeB,jbp,jbx,jby,jbN,jbO,jbz,jbP,jbQ,jbR]|simp only[hw]|simp only[hw2]|simp only[hw3]|refine tT ?_|refine And.intro ?_ ?_|exact tC|(refine tI ?_;intro hyp)|intro hyp0|omega
 refine T.loop (fun i:Nat=>⟨[(0,.ptr 0 0 0),(14,.int .i64 i)],[.box ((.int .i64 0)::(.int .i64 0)::(.int .u32 0)::(.int .u32 0)::(.int .u8 0)::(.int .u16 0)::(.bool false)::(.int .i64 k)::(.int .i64 r)::(.int .i64 k)::(.int .i64 r)::(.vec .cell L)::(.int .i64 k)::(.int .i64 r)::(.vec .cell M)::(.int .i64 0)::(.bool false)::(.int .i64 0)::(.int .i64 (r-1))::(.bool true)::(.bool false)::(.bool false)::(.int .u8 0)::(jdC (jfn i)++[.int .i64 0,.int .i64 0,.int .u32 0,.int .u32 0,.int .u8 0,.int .u16 0,.bool false,.str (bs []),.nils,.int .i32 0,.ptr 1 0 0])),.box [.ptr 2 0 0,.int .i64 0,.bool false,.int .u8 0,.bool false,.nils,.nils,.bool false],.box [.int .i64 0,.int .i32 0,.int .u8 0,.int .u8 0]]⟩) (fun i=>i≤80) (fun i=>80-i) 0 (by omega) (Cos.intro [0,1,2] [] rfl (by simp only[jfn];(simp only[SA,MB,seval,rdB,jeB,jbp,jbx,jby,jbN,jbO,jbz,jbP,jbQ,jbR]<;>exact tE))) (fun i hi=>?_)
 by_cases hi80:i<80
 ·have hw:=fun B=>jyk (tb:=jfn i) (v:=decide ((i:Int) % 8=0)&&decide (0<(i:Int))) (B:=B) hi80
  have hw2:23+i*1=i+23:=by omega
  have hw3:(i≤90)=True:=eq_true (by omega)
  have hts:jsG (jfn i) i (decide ((i:Int) % 8=0)&&decide (0<(i:Int)))=jfn (i+1):=by
   simp only[jfn]
   congr 2<;>exact decide_eq_decide.2 (by omega)
  repeat' first|simp only[SA,MB,seval,rdB,jeB,jbp,jbx,jby,jbN,jbO,jbz,jbP,jbQ,jbR]|simp only[hw]|simp only[hw2]|simp only[hw3]|refine tT ?_|refine And.intro ?_ ?_|exact tC|(refine tI ?_;intro hyp)|intro hyp0|omega
  exact⟨i+1,by omega,by omega,Cos.intro [0,1,2] [] rfl (by rw[hts];(simp only[SA,MB,seval,rdB,jeB,jbp,jbx,jby,jbN,jbO,jbz,jbP,jbQ,jbR]<;>exact tE))⟩
 ·obtain rfl:i=80:=by omega
  repeat' first|simp only[SA,MB,seval,rdB,jeB,jbp,jbx,jby,jbN,jbO,jbz,jbP,jbQ,jbR]|simp only[hw]|simp only[hw2]|simp only[hw3]|refine tT ?_|refine Cos.intro [0,1,2] [] rfl ?_|refine And.intro ?_ ?_|exact tC|(refine tI ?_;intro hyp)|intro hyp0|omega)
abbrev jwu (k:Int) (r:Int):List CV:=[.int .i64 k,.int .i64 r]
abbrev jwv (k:Int) (r:Int):KH:=[]
abbrev jww (k:Int) (r:Int):Prop×Res×KH:=(jev k r=true,.ret (.tup [.ptr 0 0 0,.int .i64 0]),[.box ((.int .i64 0)::(.int .i64 0)::(.int .u32 0)::(.int .u32 0)::(.int .u8 0)::(.int .u16 0)::(.bool false)::(.int .i64 k)::(.int .i64 r)::(.int .i64 k)::(.int .i64 r)::(.vec .cell (List.replicate (k.toNat*r.toNat) blank0))::(.int .i64 k)::(.int .i64 r)::(.vec .cell (List.replicate (k.toNat*r.toNat) blank0))::(.int .i64 0)::(.bool false)::(.int .i64 0)::(.int .i64 (r-1))::(.bool true)::(.bool false)::(.bool false)::(.int .u8 0)::(jdC (jfn 80)++[.int .i64 0,.int .i64 0,.int .u32 0,.int .u32 0,.int .u8 0,.int .u16 0,.bool false,.str (bs []),.nils,.int .i32 0,.ptr 1 0 0])),.box [.ptr 2 0 0,.int .i64 0,.bool false,.int .u8 0,.bool false,.nils,.nils,.bool false],.box [.int .i64 0,.int .i32 0,.int .u8 0,.int .u8 0]])
noncomputable def msp_enew:MSpec:=jcH (α:=Int×Int) (fun⟨k,r⟩=>(jwu k r,jwv k r)) fun⟨k,r⟩=>jww k r
theorem jlF (k:Int) (r:Int):msp_enew (jwu k r) (jwv k r)=some (jww k r):=jbn _ injM (k,r)
theorem jAb:MutF Tryz.prog E0 89 msp_enew:=MutF.of fun⟨k,r⟩ hG=>TF.intro (V:=(VV [(119,conA [.any,.any] sp_gnew),(120,conM msp_pnew),(121,conM msp_frame)] (.cons (jaa jiP) (Alias.soundA jz0) (.cons (jaa jhy) (MutF.soundM jAa) (.cons (jaa jdB) (MutF.soundM jyl) GOk.nil))) 37 0)) ji4 rfl rfl (by
 dsimp only[jwu,jwv,jww]at hG ⊢
 have hw:=hG
 have hf:=jh7.1 hG
 repeat' first|simp only[SA,MB,seval,rdB,jmG,jlE,jjU,jeB,jbp,jbx,jby,jbN,jbO,jbz,jbP,jbQ,jbR]|simp only[hw]|refine tT ?_|refine And.intro ?_ ?_|exact tC|(refine tI ?_;intro hyp)|intro hyp0|omega
 exact Cos.intro [4,2,3] [] rfl (by (simp only[SA,MB,seval,rdB,jmG,jlE,jjU,jeB,jbp,jbx,jby,jbN,jbO,jbz,jbP,jbQ,jbR]<;>exact tE)))
abbrev jwx (k:Int) (r:Int) (L:List CD) (M:List CD):List CV:=[.ptr 0 0 0]
abbrev jwy (k:Int) (r:Int) (L:List CD) (M:List CD):KH:=[.box ((.int .i64 0)::(.int .i64 0)::(.int .u32 0)::(.int .u32 0)::(.int .u8 0)::(.int .u16 0)::(.bool false)::(.int .i64 k)::(.int .i64 r)::(.int .i64 k)::(.int .i64 r)::(.vec .cell L)::(.int .i64 k)::(.int .i64 r)::(.vec .cell M)::(.int .i64 0)::(.bool false)::(.int .i64 0)::(.int .i64 (r-1))::(.bool true)::(.bool false)::(.bool false)::(.int .u8 0)::(jdC (jfn 80)++[.int .i64 0,.int .i64 0,.int .u32 0,.int .u32 0,.int .u8 0,.int .u16 0,.bool false,.str (bs []),.nils,.int .i32 0,.ptr 1 0 0])),.box [.ptr 2 0 0,.int .i64 0,.bool false,.int .u8 0,.bool false,.nils,.nils,.bool false],.box [.int .i64 0,.int .i32 0,.int .u8 0,.int .u8 0]]
abbrev jwz (k:Int) (r:Int) (L:List CD) (M:List CD):Prop×Res×KH:=(True,.ret (.agg [.int .i64 k,.int .i64 r,.vec .cell L]),[.box ((.int .i64 0)::(.int .i64 0)::(.int .u32 0)::(.int .u32 0)::(.int .u8 0)::(.int .u16 0)::(.bool false)::(.int .i64 k)::(.int .i64 r)::(.int .i64 k)::(.int .i64 r)::(.vec .cell L)::(.int .i64 k)::(.int .i64 r)::(.vec .cell M)::(.int .i64 0)::(.bool false)::(.int .i64 0)::(.int .i64 (r-1))::(.bool true)::(.bool false)::(.bool false)::(.int .u8 0)::(jdC (jfn 80)++[.int .i64 0,.int .i64 0,.int .u32 0,.int .u32 0,.int .u8 0,.int .u16 0,.bool false,.str (bs []),.nils,.int .i32 0,.ptr 1 0 0])),.box [.ptr 2 0 0,.int .i64 0,.bool false,.int .u8 0,.bool false,.nils,.nils,.bool false],.box [.int .i64 0,.int .i32 0,.int .u8 0,.int .u8 0]])
noncomputable def msp_here:MSpec:=jcH (α:=Int×Int×(List CD)×(List CD)) (fun⟨k,r,L,M⟩=>(jwx k r L M,jwy k r L M)) fun⟨k,r,L,M⟩=>jwz k r L M
theorem jlG (k:Int) (r:Int) (L:List CD) (M:List CD):msp_here (jwx k r L M) (jwy k r L M)=some (jwz k r L M):=jbn _ injM (k,r,L,M)
theorem jAc:MutF Tryz.prog E0 123 msp_here:=MutF.of fun⟨k,r,L,M⟩ hG=>TF.intro (V:=(VV [] GOk.nil 12 3)) jd2 rfl rfl (by
 dsimp only[jwx,jwy,jwz]at hG ⊢
 repeat' first|simp only[SA,MB,seval,rdB,jeB,jbp,jbx,jby,jbN,jbO,jbz,jbP,jbQ,jbR]|refine tT ?_|refine And.intro ?_ ?_|exact tC|(refine tI ?_;intro hyp)|intro hyp0|omega
 exact Cos.intro [0,1,2] [] rfl (by (simp only[SA,MB,seval,rdB,jeB,jbp,jbx,jby,jbN,jbO,jbz,jbP,jbQ,jbR]<;>exact tE)))
abbrev jlH (k:Int) (r:Int) (L:List CD) (M:List CD):List CV:=[.ptr 0 0 0]
abbrev jlI (k:Int) (r:Int) (L:List CD) (M:List CD):KH:=[.box ((.int .i64 0)::(.int .i64 0)::(.int .u32 0)::(.int .u32 0)::(.int .u8 0)::(.int .u16 0)::(.bool false)::(.int .i64 k)::(.int .i64 r)::(.int .i64 k)::(.int .i64 r)::(.vec .cell L)::(.int .i64 k)::(.int .i64 r)::(.vec .cell M)::(.int .i64 0)::(.bool false)::(.int .i64 0)::(.int .i64 (r-1))::(.bool true)::(.bool false)::(.bool false)::(.int .u8 0)::(jdC (jfn 80)++[.int .i64 0,.int .i64 0,.int .u32 0,.int .u32 0,.int .u8 0,.int .u16 0,.bool false,.str (bs []),.nils,.int .i32 0,.ptr 1 0 0])),.box [.ptr 2 0 0,.int .i64 0,.bool false,.int .u8 0,.bool false,.nils,.nils,.bool false],.box [.int .i64 0,.int .i32 0,.int .u8 0,.int .u8 0]]
abbrev jlJ (k:Int) (r:Int) (L:List CD) (M:List CD):Prop×Res×KH:=(L.length≤60000∧(∀c∈L,0≤c.link∧c.link<65536),.ret (.agg [.int .i64 k,.int .i64 r,.slice 3 0 6 L.length L.length,.int .i64 0,.int .i64 0,.bool false,.int .u8 0,.str (bs []),.slice 4 0 1 (jal [] L).length (jal [] L).length]),[.box ((.int .i64 0)::(.int .i64 0)::(.int .u32 0)::(.int .u32 0)::(.int .u8 0)::(.int .u16 0)::(.bool false)::(.int .i64 k)::(.int .i64 r)::(.int .i64 k)::(.int .i64 r)::(.vec .cell L)::(.int .i64 k)::(.int .i64 r)::(.vec .cell M)::(.int .i64 0)::(.bool false)::(.int .i64 0)::(.int .i64 (r-1))::(.bool true)::(.bool false)::(.bool false)::(.int .u8 0)::(jdC (jfn 80)++[.int .i64 0,.int .i64 0,.int .u32 0,.int .u32 0,.int .u8 0,.int .u16 0,.bool false,.str (bs []),.nils,.int .i32 0,.ptr 1 0 0])),.box [.ptr 2 0 0,.int .i64 0,.bool false,.int .u8 0,.bool false,.nils,.nils,.bool false],.box [.int .i64 0,.int .i32 0,.int .u8 0,.int .u8 0],.seq .cell (L.map (jbJ [] (jal [] L))),.seq .str (jal [] L)])
noncomputable def msp_tscreen:MSpec:=jcH (α:=Int×Int×(List CD)×(List CD)) (fun⟨k,r,L,M⟩=>(jlH k r L M,jlI k r L M)) fun⟨k,r,L,M⟩=>jlJ k r L M
theorem jg6 (k:Int) (r:Int) (L:List CD) (M:List CD):msp_tscreen (jlH k r L M) (jlI k r L M)=some (jlJ k r L M):=jbn _ injM (k,r,L,M)
theorem jtE:MutF Tryz.prog E0 90 msp_tscreen:=MutF.of fun⟨k,r,L,M⟩ hG=>TF.intro (V:=(VV [(123,conM msp_here),(122,conT [.sl .cell,.sl .str] sp_lcanon)] (.cons (jaa jd2) (MutF.soundM jAc) (.cons (jaa jfP) (Fresh.soundT jwg) GOk.nil)) 52 3)) jdq rfl rfl (by
 dsimp only[jlH,jlI,jlJ]at hG ⊢
 obtain⟨hl,hc⟩:=hG
 repeat' first|exact hc|simp only[SA,MB,seval,rdB,jlG,jjS,jeB,jbp,jbx,jby,jbN,jbO,jbz,jbP,jbQ,jbR]|refine tT ?_|refine And.intro ?_ ?_|exact tC|(refine tI ?_;intro hyp)|intro hyp0|omega
 refine Cos.intro [0,1,2,4,5] [] rfl ?_
 simp only[SA,MB,seval,rdB,jlG,jjS,jeB,jbp,jbx,jby,jbN,jbO,jbz,jbP,jbQ,jbR]
 simp)
theorem jym (n:Nat):∀c∈List.replicate n blank0,0≤c.link∧c.link<65536:=fun c hc=>by
 rw[List.eq_of_mem_replicate hc]
 decide
abbrev joi (k:Int) (r:Int):List CV:=[.int .i64 k,.int .i64 r]
abbrev joj (k:Int) (r:Int):Prop×Res:=(jev k r=true,.ret (.tup [.agg [.int .i64 k,.int .i64 r,.vec .cell (List.replicate (k.toNat*r.toNat) blank0),.int .i64 0,.int .i64 0,.bool false,.int .u8 0,.str (bs []),.vec .str []],.int .i64 0]))
noncomputable def sp_pblank:Spec:=spOf (α:=Int×Int) (fun⟨k,r⟩=>joi k r) fun⟨k,r⟩=>joj k r
theorem jbG (k:Int) (r:Int):sp_pblank (joi k r)=some (joj k r):=jaq _ injS (k,r)
theorem jwA:Fresh Tryz.prog E0 48 sp_pblank:=Fresh.of fun⟨k,r⟩ hG=>TF.intro (V:=(VV [(89,conM msp_enew),(90,conM msp_tscreen)] (.cons (jaa ji4) (MutF.soundM jAb) (.cons (jaa jdq) (MutF.soundM jtE) GOk.nil)) 20 0)) jey rfl rfl (by
 dsimp only[joi,joj]at hG ⊢
 have hf:=jh7.1 hG
 have hkr:k.toNat*r.toNat≤80*24:=Nat.mul_le_mul (by omega) (by omega)
 have hw:=jq4 [] (k.toNat*r.toNat)
 have hw2:=jlo [] [] (k.toNat*r.toNat)
 repeat' first|exact hG|exact jym _|simp only[SA,MB,seval,rdB,jlF,jg6,jeB,jbp,jbx,jby,jbN,jbO,jbz,jbP,jbQ,jbR]|simp only[hw]|simp only[hw2]|refine tT ?_|refine And.intro ?_ ?_|exact tC|(refine tI ?_;intro hyp)|intro hyp0|omega
 exact Cos.intro [4,5] [] rfl (by (simp only[SA,MB,seval,rdB,jlF,jg6,jeB,jbp,jbx,jby,jbN,jbO,jbz,jbP,jbQ,jbR]<;>exact tE)))
abbrev jok (k:Int) (r:Int):List CV:=[.int .i64 k,.int .i64 r]
abbrev jol (k:Int) (r:Int):Prop×Res:=(jev k r=true,.ret (.tup [.agg [.int .i64 k,.int .i64 r,.vec .cell (List.replicate (k.toNat*r.toNat) blank0)],.int .i64 0]))
noncomputable def sp_rgnewT:Spec:=spOf (α:=Int×Int) (fun⟨k,r⟩=>jok k r) fun⟨k,r⟩=>jol k r
theorem jjV (k:Int) (r:Int):sp_rgnewT (jok k r)=some (jol k r):=jaq _ injS (k,r)
theorem jwB:Fresh Tryz.prog E0 95 sp_rgnewT:=Fresh.of fun⟨k,r⟩ hG=>TF.intro (V:=(VV [(51,conF [.any,.any] sp_rblanks),(35,conT [.sl (.rows .cell)] sp_rgof)] (.cons (jaa jeP) (Fresh.soundF jmF) (.cons (jaa jgH) (Fresh.soundT jnJ) GOk.nil)) 37 0)) jld rfl rfl (by
 dsimp only[jok,jol]at hG ⊢
 have hw:=hG
 have hfit:(1≤k∧k≤80)∧(1≤r∧r≤24):=by
  simp only[jev,HB,ne_eq,reduceCtorEq]at hw
  omega
 obtain⟨n,rfl⟩:∃n:Nat,k=n:=⟨k.toNat,by omega⟩
 obtain⟨m,rfl⟩:∃m:Nat,r=m:=⟨r.toNat,by omega⟩
 repeat' first|simp only[SA,seval,rdB,jbD,jap,jeB,jbp,jbx,jby,jbN,jbO,jbz,jbP,jbQ,jbR]|simp only[hw]|simp only[hw2]|simp only[hw3]|simp only[hw4]|refine tT ?_|refine And.intro ?_ ?_|exact tC|(refine tI ?_;intro hyp)|intro hyp0|omega
 refine T.loop (fun y:Nat=>⟨[(0,.int .i64 n),(1,.int .i64 m),(4,.ptr 0 0 0),(6,.slice 1 0 1 y y),(7,.int .i64 y)],[.box [.int .i64 0,.int .i64 0,.nils],.seq (.rows .cell) (List.replicate y (List.replicate n blank0))]⟩) (fun y=>y≤m) (fun y=>m-y) 0 (by omega) (Cos.intro [0,1] [] rfl (by simp only[SA,seval,rdB,jbD,jap,jeB,jbp,jbx,jby,jbN,jbO,jbz,jbP,jbQ,jbR])) (fun y hy=>?_)
 have hw2:List.take y (List.replicate y (List.replicate n blank0))=List.replicate y (List.replicate n blank0):=by simp
 have hw3:jer { fg:=0,bg:=0,attrs:=0,link:=0 }=blank0:=rfl
 have hfl:(List.replicate y (List.replicate n blank0)).flatten=List.replicate (n*y) blank0:=by rw[List.flatten_replicate_replicate,Nat.mul_comm]
 have hw4:(List.replicate y (List.replicate n blank0)).flatten.length=n*y:=by rw[hfl];simp
 have hp:n*y≤80*24:=Nat.mul_le_mul (by omega) (by omega)
 repeat' first|simp only[SA,seval,rdB,jbD,jap,jeB,jbp,jbx,jby,jbN,jbO,jbz,jbP,jbQ,jbR]|simp only[hw]|simp only[hw2]|simp only[hw3]|simp only[hw4]|refine tT ?_|refine And.intro ?_ ?_|exact tC|(refine tI ?_;intro hyp)|intro hyp0|omega
 ·refine⟨y+1,by omega,by omega,Cos.intro [0,3] [] rfl ?_⟩
  have:List.replicate (y+1) (List.replicate n blank0)=List.replicate y (List.replicate n blank0)++[List.replicate n blank0]:=List.replicate_succ'
  simp only[SA,seval,rdB,jbD,jap,jeB,jbp,jbx,jby,jbN,jbO,jbz,jbP,jbQ,jbR,this]
  simp
 ·obtain rfl:y=m:=by omega
  have hl:((List.replicate y (List.replicate n blank0)).getLastD []).length=n:=by
   obtain⟨z,rfl⟩:∃z,y=z+1:=⟨y-1,by omega⟩
   rw[List.replicate_succ',List.getLastD_concat]
   simp
  rw[hl,hfl]
  exact Cos.intro [2] [] rfl (by (simp only[SA,seval,rdB,jbD,jap,jeB,jbp,jbx,jby,jbN,jbO,jbz,jbP,jbQ,jbR]<;>exact tE)))
abbrev jlK (k:Int) (r:Int):List CV:=[.int .i64 k,.int .i64 r]
abbrev jlL (k:Int) (r:Int):Prop×Res:=(jev k r=true,.ret (.tup [.agg [.int .i64 k,.int .i64 r,.vec .cell (List.replicate (k.toNat*r.toNat) blank0),.int .i64 0,.int .i64 0,.bool false,.int .u8 0,.str (bs []),.vec .str []],.int .i64 0]))
noncomputable def sp_rblankT:Spec:=spOf (α:=Int×Int) (fun⟨k,r⟩=>jlK k r) fun⟨k,r⟩=>jlL k r
theorem jbE (k:Int) (r:Int):sp_rblankT (jlK k r)=some (jlL k r):=jaq _ injS (k,r)
theorem jtF:Fresh Tryz.prog E0 55 sp_rblankT:=Fresh.of fun⟨k,r⟩ hG=>TF.intro (V:=(VV [(95,conT [.any,.any] sp_rgnewT)] (.cons (jaa jld) (Fresh.soundT jwB) GOk.nil) 23 0)) jhz rfl rfl (by
 dsimp only[jlK,jlL]at hG ⊢
 repeat' first|exact hG|simp only[SA,seval,rdB,jjV,jeB,jbp,jbx,jby,jbN,jbO,jbz,jbP,jbQ,jbR]|refine tT ?_|refine And.intro ?_ ?_|exact tC|(refine tI ?_;intro hyp)|intro hyp0|omega
 exact Cos.intro [1,99] [] rfl (by simp only[SA,seval,rdB,jjV,jeB,jbp,jbx,jby,jbN,jbO,jbz,jbP,jbQ,jbR];simp[crs,crsL,jcr]))
end
end Go.Proofs.YtcfkfgkndncanaaGreatDoor
