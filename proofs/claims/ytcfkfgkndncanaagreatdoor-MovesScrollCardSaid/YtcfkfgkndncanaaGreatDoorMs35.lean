/- Texts of this claim, merged by a program of this claim: FTerm. -/
import Derived.Test.YtcfkfgkndncanaaGreatDoorMs23
import Derived.Test.YtcfkfgkndncanaaGreatDoorMs28
import Derived.Test.YtcfkfgkndncanaaGreatDoorMs34
namespace Go.Proofs.YtcfkfgkndncanaaGreatDoor
set_option linter.unusedVariables false
set_option linter.unusedSimpArgs false
section
open Go.RowKit
set_option maxRecDepth 100000
set_option maxHeartbeats 4000000
def jdA (tb:List Bool):List CV:=(List.range 80).map fun i=>.bool (tb.getD i false)
theorem jhs:List.replicate 80 (CV.bool false)=jdA []:=rfl
theorem jbn (tb:List Bool):(jdA tb).length=80:=by simp[jdA]
theorem jbJ (tb:List Bool) (n:Nat) (B:List CV):List.take (n+80) (jdA tb++B)=jdA tb++List.take n B:=by
 rw[List.take_append,jbn,List.take_of_length_le (by rw[jbn];omega),Nat.add_sub_cancel]
theorem jbK (tb:List Bool) (n:Nat) (B:List CV):List.drop (n+80) (jdA tb++B)=List.drop n B:=by
 rw[List.drop_append,jbn,List.drop_of_length_le (by rw[jbn];omega),Nat.add_sub_cancel,List.nil_append]
theorem jcg (tb:List Bool) (n:Nat) (B:List CV):(jdA tb++B)[n+80]?=B[n]?:=by
 rw[List.getElem?_append_right (by rw[jbn];omega),jbn,Nat.add_sub_cancel]
theorem jch (tb:List Bool) (n:Nat) (B:List CV) (v:CV):(jdA tb++B).set (n+80) v=jdA tb++B.set n v:=by
 rw[List.set_append_right _ _ (by rw[jbn];omega),jbn,Nat.add_sub_cancel]
theorem jsv (f:Nat→Bool):∀(l:List Nat) (B:List CV),jdI ((l.map fun i=>CV.bool (f i))++B)=jdI B
 | [],B=>rfl
 | a::l,B=>by
  simp only[List.map_cons,List.cons_append,jdI,jdZ,List.nil_append]
  exact jsv f l B
theorem jbL (tb:List Bool) (B:List CV):jdI (jdA tb++B)=jdI B:=jsv _ _ B
theorem jwO (ρ:List Nat) (f:Nat→Bool):∀(l:List Nat) (B:List CV),locL ρ ((l.map fun i=>CV.bool (f i))++B)=(l.map fun i=>CV.bool (f i))++locL ρ B
 | [],B=>rfl
 | a::l,B=>by
  simp only[List.map_cons,List.cons_append,locL,locV]
  rw[jwO ρ f l B]
theorem jci (ρ:List Nat) (tb:List Bool) (B:List CV):locL ρ (jdA tb++B)=jdA tb++locL ρ B:=jwO ρ _ _ B
theorem jwP (σ:Nat→Nat) (f:Nat→Bool):∀(l:List Nat) (B:List CV),renL σ ((l.map fun i=>CV.bool (f i))++B)=(l.map fun i=>CV.bool (f i))++renL σ B
 | [],B=>rfl
 | a::l,B=>by
  simp only[List.map_cons,List.cons_append,renL,renV]
  rw[jwP σ f l B]
theorem jcj (σ:Nat→Nat) (tb:List Bool) (B:List CV):renL σ (jdA tb++B)=jdA tb++renL σ B:=jwP σ _ _ B
theorem jwQ (ρ fz:List Nat) (h:KH) (f:Nat→Bool):∀(l:List Nat) (A B:List CV),crsL ρ fz h ((l.map fun i=>CV.bool (f i))++A) ((l.map fun i=>CV.bool (f i))++B)=crsL ρ fz h A B
 | [],A,B=>rfl
 | a::l,A,B=>by
  simp only[List.map_cons,List.cons_append,crsL,crs,true_and]
  exact jwQ ρ fz h f l A B
theorem jck (ρ fz:List Nat) (h:KH) (tb:List Bool) (A B:List CV):crsL ρ fz h (jdA tb++A) (jdA tb++B)=crsL ρ fz h A B:=jwQ ρ fz h _ _ A B
def jsw (tb:List Bool) (i:Nat) (v:Bool):List Bool:=((List.range 80).map fun j=>tb.getD j false).set i v
theorem jyY {tb:List Bool}{i:Nat}{v:Bool}{B:List CV}(h:i<80):(jdA tb++B).set i (.bool v)=jdA (jsw tb i v)++B:=by
 rw[List.set_append_left _ _ (by rw[jbn];exact h)]
 congr 1
 refine List.ext_getElem? fun j=>?_
 unfold jdA jsw
 rw[List.getElem?_set,List.getElem?_map,List.getElem?_map]
 by_cases hj:j<80
 ·rw[List.getElem?_range hj]
  simp only[Option.map_some,List.length_map,List.length_range,List.getD_eq_getElem?_getD,List.getElem?_set]
  by_cases e:i=j
  ·subst e
   simp[h]
  ·simp[e,hj]
 ·rw[List.getElem?_eq_none (show (List.range 80).length≤j by simp;omega)]
  simp only[Option.map_none]
  rw[if_neg (by omega)]
def jfx:Nat→List Bool
 | 0=>[]
 | i+1=>jsw (jfx i) i (decide (i % 8=0)&&decide (0<i))
abbrev jwR:List CV:=[]
abbrev jwS:KH:=[]
abbrev f_unew:Prop×Res×KH:=(True,.ret (.ptr 0 0 0),[.box [.int .i64 0,.int .i32 0,.int .u8 0,.int .u8 0]])
noncomputable def msp_unew:MSpec:=jcS (α:=Unit) (fun _=>(jwR,jwS)) fun _=>f_unew
theorem jq2:msp_unew jwR jwS=some f_unew:=jbd _ (fun _ _ _=>rfl) ()
theorem jBd:MutF Tryz.prog E0 128 msp_unew:=MutF.of fun _ hG=>TF.intro (V:=(VV [] GOk.nil 3 0)) jll rfl rfl (by
 dsimp only[jwR,jwS,f_unew]at hG ⊢
 repeat' first|simp only[SA,MB,seval,rdB,jhs,jbn,jbJ,jbK,jcg,jch,jbL,jci,jcj,jck]|refine tT ?_|refine Cos.intro [0] [] rfl ?_|refine And.intro ?_ ?_|exact tC|(refine tI ?_;intro hyp)|intro hyp0|omega)
abbrev jwT:List CV:=[]
abbrev jwU:KH:=[]
abbrev f_pnew:Prop×Res×KH:=(True,.ret (.ptr 0 0 0),[.box [.ptr 1 0 0,.int .i64 0,.bool false,.int .u8 0,.bool false,.nils,.nils,.bool false],.box [.int .i64 0,.int .i32 0,.int .u8 0,.int .u8 0]])
noncomputable def msp_pnew:MSpec:=jcS (α:=Unit) (fun _=>(jwT,jwU)) fun _=>f_pnew
theorem jlm:msp_pnew jwT jwU=some f_pnew:=jbd _ (fun _ _ _=>rfl) ()
theorem jBe:MutF Tryz.prog E0 120 msp_pnew:=MutF.of fun _ hG=>TF.intro (V:=(VV [(128,conM msp_unew)] (.cons (jaa jll) (MutF.soundM jBd) GOk.nil) 4 0)) jhr rfl rfl (by
 dsimp only[jwT,jwU,f_pnew]at hG ⊢
 repeat' first|simp only[SA,MB,seval,rdB,jq2,jhs,jbn,jbJ,jbK,jcg,jch,jbL,jci,jcj,jck]|refine tT ?_|refine Cos.intro [1,0] [] rfl ?_|refine And.intro ?_ ?_|exact tC|(refine tI ?_;intro hyp)|intro hyp0|omega)
abbrev jq3 (k:Int) (r:Int) (L:List CD) (M:List CD):List CV:=[.ptr 0 0 0]
abbrev jq4 (k:Int) (r:Int) (L:List CD) (M:List CD):KH:=[.box ((.int .i64 0)::(.int .i64 0)::(.int .u32 0)::(.int .u32 0)::(.int .u8 0)::(.int .u16 0)::(.bool false)::(.int .i64 k)::(.int .i64 r)::(.int .i64 k)::(.int .i64 r)::(.vec .cell L)::(.int .i64 k)::(.int .i64 r)::(.vec .cell M)::(.int .i64 0)::(.bool false)::(.int .i64 0)::(.int .i64 0)::(.bool true)::(.bool false)::(.bool false)::(.int .u8 0)::(jdA []++[.int .i64 0,.int .i64 0,.int .u32 0,.int .u32 0,.int .u8 0,.int .u16 0,.bool false,.str (bs []),.nils,.int .i32 0,.ptr 1 0 0])),.box [.ptr 2 0 0,.int .i64 0,.bool false,.int .u8 0,.bool false,.nils,.nils,.bool false],.box [.int .i64 0,.int .i32 0,.int .u8 0,.int .u8 0]]
abbrev jq5 (k:Int) (r:Int) (L:List CD) (M:List CD):Prop×Res×KH:=(1≤r∧r≤100,.ret .undef,[.box ((.int .i64 0)::(.int .i64 0)::(.int .u32 0)::(.int .u32 0)::(.int .u8 0)::(.int .u16 0)::(.bool false)::(.int .i64 k)::(.int .i64 r)::(.int .i64 k)::(.int .i64 r)::(.vec .cell L)::(.int .i64 k)::(.int .i64 r)::(.vec .cell M)::(.int .i64 0)::(.bool false)::(.int .i64 0)::(.int .i64 (r-1))::(.bool true)::(.bool false)::(.bool false)::(.int .u8 0)::(jdA (jfx 80)++[.int .i64 0,.int .i64 0,.int .u32 0,.int .u32 0,.int .u8 0,.int .u16 0,.bool false,.str (bs []),.nils,.int .i32 0,.ptr 1 0 0])),.box [.ptr 2 0 0,.int .i64 0,.bool false,.int .u8 0,.bool false,.nils,.nils,.bool false],.box [.int .i64 0,.int .i32 0,.int .u8 0,.int .u8 0]])
noncomputable def msp_frame:MSpec:=jcS (α:=Int×Int×(List CD)×(List CD)) (fun⟨k,r,L,M⟩=>(jq3 k r L M,jq4 k r L M)) fun⟨k,r,L,M⟩=>jq5 k r L M
theorem jjf (k:Int) (r:Int) (L:List CD) (M:List CD):msp_frame (jq3 k r L M) (jq4 k r L M)=some (jq5 k r L M):=jbd _ injM (k,r,L,M)
theorem jyZ:MutF Tryz.prog E0 121 msp_frame:=MutF.of fun⟨k,r,L,M⟩ hG=>TF.intro (V:=(VV [] GOk.nil 30 3)) jdz rfl rfl (by
 dsimp only[jq3,jq4,jq5]at hG ⊢
 have hr:=hG
 repeat' first|simp only[SA,MB,seval,rdB,jhs,jbn,jbJ,jbK,jcg,jch,jbL,jci,jcj,jck]|simp only[hw]|simp only[hw2]|simp only[hw3]|refine tT ?_|refine And.intro ?_ ?_|exact tC|(refine tI ?_;intro hyp)|intro hyp0|omega
 refine T.loop (fun i:Nat=>⟨[(0,.ptr 0 0 0),(14,.int .i64 i)],[.box ((.int .i64 0)::(.int .i64 0)::(.int .u32 0)::(.int .u32 0)::(.int .u8 0)::(.int .u16 0)::(.bool false)::(.int .i64 k)::(.int .i64 r)::(.int .i64 k)::(.int .i64 r)::(.vec .cell L)::(.int .i64 k)::(.int .i64 r)::(.vec .cell M)::(.int .i64 0)::(.bool false)::(.int .i64 0)::(.int .i64 (r-1))::(.bool true)::(.bool false)::(.bool false)::(.int .u8 0)::(jdA (jfx i)++[.int .i64 0,.int .i64 0,.int .u32 0,.int .u32 0,.int .u8 0,.int .u16 0,.bool false,.str (bs []),.nils,.int .i32 0,.ptr 1 0 0])),.box [.ptr 2 0 0,.int .i64 0,.bool false,.int .u8 0,.bool false,.nils,.nils,.bool false],.box [.int .i64 0,.int .i32 0,.int .u8 0,.int .u8 0]]⟩) (fun i=>i≤80) (fun i=>80-i) 0 (by omega) (Cos.intro [0,1,2] [] rfl (by simp only[jfx];(simp only[SA,MB,seval,rdB,jhs,jbn,jbJ,jbK,jcg,jch,jbL,jci,jcj,jck]<;>exact tE))) (fun i hi=>?_)
 by_cases hi80:i<80
 ·have hw:=fun B=>jyY (tb:=jfx i) (v:=decide ((i:Int) % 8=0)&&decide (0<(i:Int))) (B:=B) hi80
  have hw2:23+i*1=i+23:=by omega
  have hw3:(i≤90)=True:=eq_true (by omega)
  have hts:jsw (jfx i) i (decide ((i:Int) % 8=0)&&decide (0<(i:Int)))=jfx (i+1):=by
   simp only[jfx]
   congr 2<;>exact decide_eq_decide.2 (by omega)
  repeat' first|simp only[SA,MB,seval,rdB,jhs,jbn,jbJ,jbK,jcg,jch,jbL,jci,jcj,jck]|simp only[hw]|simp only[hw2]|simp only[hw3]|refine tT ?_|refine And.intro ?_ ?_|exact tC|(refine tI ?_;intro hyp)|intro hyp0|omega
  exact⟨i+1,by omega,by omega,Cos.intro [0,1,2] [] rfl (by rw[hts];(simp only[SA,MB,seval,rdB,jhs,jbn,jbJ,jbK,jcg,jch,jbL,jci,jcj,jck]<;>exact tE))⟩
 ·obtain rfl:i=80:=by omega
  repeat' first|simp only[SA,MB,seval,rdB,jhs,jbn,jbJ,jbK,jcg,jch,jbL,jci,jcj,jck]|simp only[hw]|simp only[hw2]|simp only[hw3]|refine tT ?_|refine Cos.intro [0,1,2] [] rfl ?_|refine And.intro ?_ ?_|exact tC|(refine tI ?_;intro hyp)|intro hyp0|omega)
abbrev jwV (k:Int) (r:Int):List CV:=[.int .i64 k,.int .i64 r]
abbrev jwW (k:Int) (r:Int):KH:=[]
abbrev jwX (k:Int) (r:Int):Prop×Res×KH:=(je5 k r=true,.ret (.tup [.ptr 0 0 0,.int .i64 0]),[.box ((.int .i64 0)::(.int .i64 0)::(.int .u32 0)::(.int .u32 0)::(.int .u8 0)::(.int .u16 0)::(.bool false)::(.int .i64 k)::(.int .i64 r)::(.int .i64 k)::(.int .i64 r)::(.vec .cell (List.replicate (k.toNat*r.toNat) blank0))::(.int .i64 k)::(.int .i64 r)::(.vec .cell (List.replicate (k.toNat*r.toNat) blank0))::(.int .i64 0)::(.bool false)::(.int .i64 0)::(.int .i64 (r-1))::(.bool true)::(.bool false)::(.bool false)::(.int .u8 0)::(jdA (jfx 80)++[.int .i64 0,.int .i64 0,.int .u32 0,.int .u32 0,.int .u8 0,.int .u16 0,.bool false,.str (bs []),.nils,.int .i32 0,.ptr 1 0 0])),.box [.ptr 2 0 0,.int .i64 0,.bool false,.int .u8 0,.bool false,.nils,.nils,.bool false],.box [.int .i64 0,.int .i32 0,.int .u8 0,.int .u8 0]])
noncomputable def msp_enew:MSpec:=jcS (α:=Int×Int) (fun⟨k,r⟩=>(jwV k r,jwW k r)) fun⟨k,r⟩=>jwX k r
theorem jln (k:Int) (r:Int):msp_enew (jwV k r) (jwW k r)=some (jwX k r):=jbd _ injM (k,r)
theorem jBf:MutF Tryz.prog E0 89 msp_enew:=MutF.of fun⟨k,r⟩ hG=>TF.intro (V:=(VV [(119,conA [.any,.any] sp_gnew),(120,conM msp_pnew),(121,conM msp_frame)] (.cons (jaa jiz) (Alias.soundA jAX) (.cons (jaa jhr) (MutF.soundM jBe) (.cons (jaa jdz) (MutF.soundM jyZ) GOk.nil))) 37 0)) jiR rfl rfl (by
 dsimp only[jwV,jwW,jwX]at hG ⊢
 have hw:=hG
 have hf:=jdh.1 hG
 repeat' first|simp only[SA,MB,seval,rdB,jl7,jlm,jjf,jhs,jbn,jbJ,jbK,jcg,jch,jbL,jci,jcj,jck]|simp only[hw]|refine tT ?_|refine And.intro ?_ ?_|exact tC|(refine tI ?_;intro hyp)|intro hyp0|omega
 exact Cos.intro [4,2,3] [] rfl (by (simp only[SA,MB,seval,rdB,jl7,jlm,jjf,jhs,jbn,jbJ,jbK,jcg,jch,jbL,jci,jcj,jck]<;>exact tE)))
abbrev jwY (k:Int) (r:Int) (L:List CD) (M:List CD):List CV:=[.ptr 0 0 0]
abbrev jwZ (k:Int) (r:Int) (L:List CD) (M:List CD):KH:=[.box ((.int .i64 0)::(.int .i64 0)::(.int .u32 0)::(.int .u32 0)::(.int .u8 0)::(.int .u16 0)::(.bool false)::(.int .i64 k)::(.int .i64 r)::(.int .i64 k)::(.int .i64 r)::(.vec .cell L)::(.int .i64 k)::(.int .i64 r)::(.vec .cell M)::(.int .i64 0)::(.bool false)::(.int .i64 0)::(.int .i64 (r-1))::(.bool true)::(.bool false)::(.bool false)::(.int .u8 0)::(jdA (jfx 80)++[.int .i64 0,.int .i64 0,.int .u32 0,.int .u32 0,.int .u8 0,.int .u16 0,.bool false,.str (bs []),.nils,.int .i32 0,.ptr 1 0 0])),.box [.ptr 2 0 0,.int .i64 0,.bool false,.int .u8 0,.bool false,.nils,.nils,.bool false],.box [.int .i64 0,.int .i32 0,.int .u8 0,.int .u8 0]]
abbrev jw0 (k:Int) (r:Int) (L:List CD) (M:List CD):Prop×Res×KH:=(True,.ret (.agg [.int .i64 k,.int .i64 r,.vec .cell L]),[.box ((.int .i64 0)::(.int .i64 0)::(.int .u32 0)::(.int .u32 0)::(.int .u8 0)::(.int .u16 0)::(.bool false)::(.int .i64 k)::(.int .i64 r)::(.int .i64 k)::(.int .i64 r)::(.vec .cell L)::(.int .i64 k)::(.int .i64 r)::(.vec .cell M)::(.int .i64 0)::(.bool false)::(.int .i64 0)::(.int .i64 (r-1))::(.bool true)::(.bool false)::(.bool false)::(.int .u8 0)::(jdA (jfx 80)++[.int .i64 0,.int .i64 0,.int .u32 0,.int .u32 0,.int .u8 0,.int .u16 0,.bool false,.str (bs []),.nils,.int .i32 0,.ptr 1 0 0])),.box [.ptr 2 0 0,.int .i64 0,.bool false,.int .u8 0,.bool false,.nils,.nils,.bool false],.box [.int .i64 0,.int .i32 0,.int .u8 0,.int .u8 0]])
noncomputable def msp_here:MSpec:=jcS (α:=Int×Int×(List CD)×(List CD)) (fun⟨k,r,L,M⟩=>(jwY k r L M,jwZ k r L M)) fun⟨k,r,L,M⟩=>jw0 k r L M
theorem jlo (k:Int) (r:Int) (L:List CD) (M:List CD):msp_here (jwY k r L M) (jwZ k r L M)=some (jw0 k r L M):=jbd _ injM (k,r,L,M)
theorem jBg:MutF Tryz.prog E0 123 msp_here:=MutF.of fun⟨k,r,L,M⟩ hG=>TF.intro (V:=(VV [] GOk.nil 12 3)) jd2 rfl rfl (by
 dsimp only[jwY,jwZ,jw0]at hG ⊢
 repeat' first|simp only[SA,MB,seval,rdB,jhs,jbn,jbJ,jbK,jcg,jch,jbL,jci,jcj,jck]|refine tT ?_|refine And.intro ?_ ?_|exact tC|(refine tI ?_;intro hyp)|intro hyp0|omega
 exact Cos.intro [0,1,2] [] rfl (by (simp only[SA,MB,seval,rdB,jhs,jbn,jbJ,jbK,jcg,jch,jbL,jci,jcj,jck]<;>exact tE)))
abbrev jlp (k:Int) (r:Int) (L:List CD) (M:List CD):List CV:=[.ptr 0 0 0]
abbrev jlq (k:Int) (r:Int) (L:List CD) (M:List CD):KH:=[.box ((.int .i64 0)::(.int .i64 0)::(.int .u32 0)::(.int .u32 0)::(.int .u8 0)::(.int .u16 0)::(.bool false)::(.int .i64 k)::(.int .i64 r)::(.int .i64 k)::(.int .i64 r)::(.vec .cell L)::(.int .i64 k)::(.int .i64 r)::(.vec .cell M)::(.int .i64 0)::(.bool false)::(.int .i64 0)::(.int .i64 (r-1))::(.bool true)::(.bool false)::(.bool false)::(.int .u8 0)::(jdA (jfx 80)++[.int .i64 0,.int .i64 0,.int .u32 0,.int .u32 0,.int .u8 0,.int .u16 0,.bool false,.str (bs []),.nils,.int .i32 0,.ptr 1 0 0])),.box [.ptr 2 0 0,.int .i64 0,.bool false,.int .u8 0,.bool false,.nils,.nils,.bool false],.box [.int .i64 0,.int .i32 0,.int .u8 0,.int .u8 0]]
abbrev jlr (k:Int) (r:Int) (L:List CD) (M:List CD):Prop×Res×KH:=(L.length≤60000∧(∀c∈L,0≤c.link∧c.link<65536),.ret (.agg [.int .i64 k,.int .i64 r,.slice 3 0 6 L.length L.length,.int .i64 0,.int .i64 0,.bool false,.int .u8 0,.str (bs []),.slice 4 0 1 (jah [] L).length (jah [] L).length]),[.box ((.int .i64 0)::(.int .i64 0)::(.int .u32 0)::(.int .u32 0)::(.int .u8 0)::(.int .u16 0)::(.bool false)::(.int .i64 k)::(.int .i64 r)::(.int .i64 k)::(.int .i64 r)::(.vec .cell L)::(.int .i64 k)::(.int .i64 r)::(.vec .cell M)::(.int .i64 0)::(.bool false)::(.int .i64 0)::(.int .i64 (r-1))::(.bool true)::(.bool false)::(.bool false)::(.int .u8 0)::(jdA (jfx 80)++[.int .i64 0,.int .i64 0,.int .u32 0,.int .u32 0,.int .u8 0,.int .u16 0,.bool false,.str (bs []),.nils,.int .i32 0,.ptr 1 0 0])),.box [.ptr 2 0 0,.int .i64 0,.bool false,.int .u8 0,.bool false,.nils,.nils,.bool false],.box [.int .i64 0,.int .i32 0,.int .u8 0,.int .u8 0],.seq .cell (L.map (jbo [] (jah [] L))),.seq .str (jah [] L)])
noncomputable def msp_tscreen:MSpec:=jcS (α:=Int×Int×(List CD)×(List CD)) (fun⟨k,r,L,M⟩=>(jlp k r L M,jlq k r L M)) fun⟨k,r,L,M⟩=>jlr k r L M
theorem jgX (k:Int) (r:Int) (L:List CD) (M:List CD):msp_tscreen (jlp k r L M) (jlq k r L M)=some (jlr k r L M):=jbd _ injM (k,r,L,M)
theorem jtF:MutF Tryz.prog E0 90 msp_tscreen:=MutF.of fun⟨k,r,L,M⟩ hG=>TF.intro (V:=(VV [(123,conM msp_here),(122,conT [.sl .cell,.sl .str] sp_lcanon)] (.cons (jaa jd2) (MutF.soundM jBg) (.cons (jaa jfX) (Fresh.soundT jwE) GOk.nil)) 52 3)) jdk rfl rfl (by
 dsimp only[jlp,jlq,jlr]at hG ⊢
 obtain⟨hl,hc⟩:=hG
 repeat' first|exact hc|simp only[SA,MB,seval,rdB,jlo,jjc,jhs,jbn,jbJ,jbK,jcg,jch,jbL,jci,jcj,jck]|refine tT ?_|refine And.intro ?_ ?_|exact tC|(refine tI ?_;intro hyp)|intro hyp0|omega
 refine Cos.intro [0,1,2,4,5] [] rfl ?_
 simp only[SA,MB,seval,rdB,jlo,jjc,jhs,jbn,jbJ,jbK,jcg,jch,jbL,jci,jcj,jck]
 simp)
theorem jy0 (n:Nat):∀c∈List.replicate n blank0,0≤c.link∧c.link<65536:=fun c hc=>by
 rw[List.eq_of_mem_replicate hc]
 decide
abbrev jn2 (k:Int) (r:Int):List CV:=[.int .i64 k,.int .i64 r]
abbrev jn3 (k:Int) (r:Int):Prop×Res:=(je5 k r=true,.ret (.tup [.agg [.int .i64 k,.int .i64 r,.vec .cell (List.replicate (k.toNat*r.toNat) blank0),.int .i64 0,.int .i64 0,.bool false,.int .u8 0,.str (bs []),.vec .str []],.int .i64 0]))
noncomputable def sp_pblank:Spec:=spOf (α:=Int×Int) (fun⟨k,r⟩=>jn2 k r) fun⟨k,r⟩=>jn3 k r
theorem jaw (k:Int) (r:Int):sp_pblank (jn2 k r)=some (jn3 k r):=jak _ injS (k,r)
theorem jo6:Fresh Tryz.prog E0 48 sp_pblank:=Fresh.of fun⟨k,r⟩ hG=>TF.intro (V:=(VV [(89,conM msp_enew),(90,conM msp_tscreen)] (.cons (jaa jiR) (MutF.soundM jBf) (.cons (jaa jdk) (MutF.soundM jtF) GOk.nil)) 20 0)) jdl rfl rfl (by
 dsimp only[jn2,jn3]at hG ⊢
 have hf:=jdh.1 hG
 have hkr:k.toNat*r.toNat≤80*24:=Nat.mul_le_mul (by omega) (by omega)
 have hw:=jqF [] (k.toNat*r.toNat)
 have hw2:=jkS [] [] (k.toNat*r.toNat)
 repeat' first|exact hG|exact jy0 _|simp only[SA,MB,seval,rdB,jln,jgX,jhs,jbn,jbJ,jbK,jcg,jch,jbL,jci,jcj,jck]|simp only[hw]|simp only[hw2]|refine tT ?_|refine And.intro ?_ ?_|exact tC|(refine tI ?_;intro hyp)|intro hyp0|omega
 exact Cos.intro [4,5] [] rfl (by (simp only[SA,MB,seval,rdB,jln,jgX,jhs,jbn,jbJ,jbK,jcg,jch,jbL,jci,jcj,jck]<;>exact tE)))
end
end Go.Proofs.YtcfkfgkndncanaaGreatDoor
