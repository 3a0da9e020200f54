/- Texts of this claim, merged by a program of this claim: FTerm. -/
import Derived.Test.YtcfkfgkndncanaaGreatDoorMt24
import Derived.Test.YtcfkfgkndncanaaGreatDoorMt29
import Derived.Test.YtcfkfgkndncanaaGreatDoorMt36
namespace Go.Proofs.YtcfkfgkndncanaaGreatDoor
set_option linter.unusedVariables false
set_option linter.unusedSimpArgs false
section
open Go.RowKit
set_option maxRecDepth 100000
set_option maxHeartbeats 4000000
def jcv (tb:List Bool):List CV:=(List.range 80).map fun i=>.bool (tb.getD i false)
theorem jg0:List.replicate 80 (CV.bool false)=jcv []:=rfl
theorem jbl (tb:List Bool):(jcv tb).length=80:=by simp [jcv]
theorem jbF (tb:List Bool) (n:Nat) (B:List CV):List.take (n+80) (jcv tb++B)=jcv tb++List.take n B:=by
 rw [List.take_append,jbl,List.take_of_length_le (by rw [jbl]; omega),Nat.add_sub_cancel]
theorem jbG (tb:List Bool) (n:Nat) (B:List CV):List.drop (n+80) (jcv tb++B)=List.drop n B:=by
 rw [List.drop_append,jbl,List.drop_of_length_le (by rw [jbl]; omega),Nat.add_sub_cancel,List.nil_append]
theorem jb6 (tb:List Bool) (n:Nat) (B:List CV):(jcv tb++B)[n+80]?=B[n]?:=by
 rw [List.getElem?_append_right (by rw [jbl]; omega),jbl,Nat.add_sub_cancel]
theorem jb7 (tb:List Bool) (n:Nat) (B:List CV) (v:CV):(jcv tb++B).set (n+80) v=jcv tb++B.set n v:=by
 rw [List.set_append_right _ _ (by rw [jbl]; omega),jbl,Nat.add_sub_cancel]
theorem jo2 (f:Nat→Bool):∀ (l:List Nat) (B:List CV),jdo ((l.map fun i=>CV.bool (f i))++B)=jdo B
 | [],B=>rfl
 | a :: l,B=>by
  simp only [List.map_cons,List.cons_append,jdo,jdI,List.nil_append]
  exact jo2 f l B
theorem jbH (tb:List Bool) (B:List CV):jdo (jcv tb++B)=jdo B:=jo2 _ _ B
theorem jsu (ρ:List Nat) (f:Nat→Bool):∀ (l:List Nat) (B:List CV),locL ρ ((l.map fun i=>CV.bool (f i))++B)=(l.map fun i=>CV.bool (f i))++locL ρ B
 | [],B=>rfl
 | a :: l,B=>by
  simp only [List.map_cons,List.cons_append,locL,locV]
  rw [jsu ρ f l B]
theorem jb8 (ρ:List Nat) (tb:List Bool) (B:List CV):locL ρ (jcv tb++B)=jcv tb++locL ρ B:=jsu ρ _ _ B
theorem jsv (σ:Nat→Nat) (f:Nat→Bool):∀ (l:List Nat) (B:List CV),renL σ ((l.map fun i=>CV.bool (f i))++B)=(l.map fun i=>CV.bool (f i))++renL σ B
 | [],B=>rfl
 | a :: l,B=>by
  simp only [List.map_cons,List.cons_append,renL,renV]
  rw [jsv σ f l B]
theorem jb9 (σ:Nat→Nat) (tb:List Bool) (B:List CV):renL σ (jcv tb++B)=jcv tb++renL σ B:=jsv σ _ _ B
theorem jsw (ρ fz:List Nat) (h:KH) (f:Nat→Bool):∀ (l:List Nat) (A B:List CV),crsL ρ fz h ((l.map fun i=>CV.bool (f i))++A) ((l.map fun i=>CV.bool (f i))++B)=crsL ρ fz h A B
 | [],A,B=>rfl
 | a :: l,A,B=>by
  simp only [List.map_cons,List.cons_append,crsL,crs,true_and]
  exact jsw ρ fz h f l A B
theorem jca (ρ fz:List Nat) (h:KH) (tb:List Bool) (A B:List CV):crsL ρ fz h (jcv tb++A) (jcv tb++B)=crsL ρ fz h A B:=jsw ρ fz h _ _ A B
def jo3 (tb:List Bool) (i:Nat) (v:Bool):List Bool:=((List.range 80).map fun j=>tb.getD j false).set i v
theorem jug {tb:List Bool} {i:Nat} {v:Bool} {B:List CV} (h:i < 80):(jcv tb++B).set i (.bool v)=jcv (jo3 tb i v)++B:=by
 rw [List.set_append_left _ _ (by rw [jbl]; exact h)]
 congr 1
 refine List.ext_getElem? fun j=>?_
 unfold jcv jo3
 rw [List.getElem?_set,List.getElem?_map,List.getElem?_map]
 by_cases hj:j < 80
 ·rw [List.getElem?_range hj]
  simp only [Option.map_some,List.length_map,List.length_range,List.getD_eq_getElem?_getD,List.getElem?_set]
  by_cases e:i=j
  ·subst e
   simp [h]
  ·simp [e,hj]
 ·rw [List.getElem?_eq_none (show (List.range 80).length≤j by simp; omega)]
  simp only [Option.map_none]
  rw [if_neg (by omega)]
def jc6:Nat→List Bool
 | 0=>[]
 | i+1=>jo3 (jc6 i) i (decide (i % 8=0) && decide (0 < i))
noncomputable def msp_unew:MSpec:=jcD (α:=Unit) (fun _=>([],[])) fun _=>(True,.ret (.ptr 0 0 0),[.box [.int .i64 0,.int .i32 0,.int .u8 0,.int .u8 0]])
theorem jnS:msp_unew [] []=some (True,.ret (.ptr 0 0 0),[.box [.int .i64 0,.int .i32 0,.int .u8 0,.int .u8 0]]):=jbd (α:=Unit) _ (fun _a _b h=>by first | rfl | simpa [CP,jaP] using h | (simp [CP,jaP] at h ⊢; grind)) ()
theorem jv9:MutF Tryz.prog E0 128 msp_unew:=MutF.of fun _a hG=>TF.intro (V:=(VV [] GOk.nil 3 0)) jka rfl rfl (by
 dsimp only at hG ⊢
 repeat' first | simp only [SB,E,MB,seval,rdB,ne_eq,implies_true,jg0,jbl,jbF,jbG,jb6,jb7,jbH,jb8,jb9,jca] | refine T.seq ?_ | refine T.stm ?_ | refine T.rg ?_ | refine jac ?_ | refine jad ?_ | refine jae ?_ | refine T.cond ?_ | refine T.skip ?_ | refine T.ret ?_ | refine T.exit ?_ | refine T.block ?_ | refine Cos.intro [0] [] rfl ?_ | refine And.intro ?_ ?_ | (intro p0; have hyp:=p0; (try simp only [HB,ne_eq,reduceCtorEq] at hyp); (try simp only [p0]); (try clear p0); try (exfalso; omega; done)) | omega)
noncomputable def msp_pnew:MSpec:=jcD (α:=Unit) (fun _=>([],[])) fun _=>(True,.ret (.ptr 0 0 0),[.box [.ptr 1 0 0,.int .i64 0,.bool false,.int .u8 0,.bool false,.nils,.nils,.bool false],.box [.int .i64 0,.int .i32 0,.int .u8 0,.int .u8 0]])
theorem jkb:msp_pnew [] []=some (True,.ret (.ptr 0 0 0),[.box [.ptr 1 0 0,.int .i64 0,.bool false,.int .u8 0,.bool false,.nils,.nils,.bool false],.box [.int .i64 0,.int .i32 0,.int .u8 0,.int .u8 0]]):=jbd (α:=Unit) _ (fun _a _b h=>by first | rfl | simpa [CP,jaP] using h | (simp [CP,jaP] at h ⊢; grind)) ()
theorem jwa:MutF Tryz.prog E0 120 msp_pnew:=MutF.of fun _a hG=>TF.intro (V:=(VV [(128,conM msp_unew)] (.cons (jaa jka) (MutF.soundM jv9) GOk.nil) 4 0)) jgZ rfl rfl (by
 dsimp only at hG ⊢
 repeat' first | simp only [SB,E,MB,seval,rdB,ne_eq,implies_true,jnS,jg0,jbl,jbF,jbG,jb6,jb7,jbH,jb8,jb9,jca] | refine T.seq ?_ | refine T.stm ?_ | refine T.rg ?_ | refine jac ?_ | refine jad ?_ | refine jae ?_ | refine T.cond ?_ | refine T.skip ?_ | refine T.ret ?_ | refine T.exit ?_ | refine T.block ?_ | refine Cos.intro [1,0] [] rfl ?_ | refine And.intro ?_ ?_ | (intro p0; have hyp:=p0; (try simp only [HB,ne_eq,reduceCtorEq] at hyp); (try simp only [p0]); (try clear p0); try (exfalso; omega; done)) | omega)
noncomputable def msp_frame:MSpec:=jcD (α:=Int × Int × (List CD) × (List CD)) (fun ⟨k,r,L,M⟩=>([.ptr 0 0 0],[.box ((.int .i64 0) :: (.int .i64 0) :: (.int .u32 0) :: (.int .u32 0) :: (.int .u8 0) :: (.int .u16 0) :: (.bool false) :: (.int .i64 k) :: (.int .i64 r) :: (.int .i64 k) :: (.int .i64 r) :: (.vec .cell L) :: (.int .i64 k) :: (.int .i64 r) :: (.vec .cell M) :: (.int .i64 0) :: (.bool false) :: (.int .i64 0) :: (.int .i64 0) :: (.bool true) :: (.bool false) :: (.bool false) :: (.int .u8 0) :: (jcv []++[.int .i64 0,.int .i64 0,.int .u32 0,.int .u32 0,.int .u8 0,.int .u16 0,.bool false,.str (bs []),.nils,.int .i32 0,.ptr 1 0 0])),.box [.ptr 2 0 0,.int .i64 0,.bool false,.int .u8 0,.bool false,.nils,.nils,.bool false],.box [.int .i64 0,.int .i32 0,.int .u8 0,.int .u8 0]])) fun ⟨k,r,L,M⟩=>(1≤r∧r≤100,.ret .undef,[.box ((.int .i64 0) :: (.int .i64 0) :: (.int .u32 0) :: (.int .u32 0) :: (.int .u8 0) :: (.int .u16 0) :: (.bool false) :: (.int .i64 k) :: (.int .i64 r) :: (.int .i64 k) :: (.int .i64 r) :: (.vec .cell L) :: (.int .i64 k) :: (.int .i64 r) :: (.vec .cell M) :: (.int .i64 0) :: (.bool false) :: (.int .i64 0) :: (.int .i64 (r - 1)) :: (.bool true) :: (.bool false) :: (.bool false) :: (.int .u8 0) :: (jcv (jc6 80)++[.int .i64 0,.int .i64 0,.int .u32 0,.int .u32 0,.int .u8 0,.int .u16 0,.bool false,.str (bs []),.nils,.int .i32 0,.ptr 1 0 0])),.box [.ptr 2 0 0,.int .i64 0,.bool false,.int .u8 0,.bool false,.nils,.nils,.bool false],.box [.int .i64 0,.int .i32 0,.int .u8 0,.int .u8 0]])
theorem jis (k:Int) (r:Int) (L:List CD) (M:List CD):msp_frame [.ptr 0 0 0] [.box ((.int .i64 0) :: (.int .i64 0) :: (.int .u32 0) :: (.int .u32 0) :: (.int .u8 0) :: (.int .u16 0) :: (.bool false) :: (.int .i64 k) :: (.int .i64 r) :: (.int .i64 k) :: (.int .i64 r) :: (.vec .cell L) :: (.int .i64 k) :: (.int .i64 r) :: (.vec .cell M) :: (.int .i64 0) :: (.bool false) :: (.int .i64 0) :: (.int .i64 0) :: (.bool true) :: (.bool false) :: (.bool false) :: (.int .u8 0) :: (jcv []++[.int .i64 0,.int .i64 0,.int .u32 0,.int .u32 0,.int .u8 0,.int .u16 0,.bool false,.str (bs []),.nils,.int .i32 0,.ptr 1 0 0])),.box [.ptr 2 0 0,.int .i64 0,.bool false,.int .u8 0,.bool false,.nils,.nils,.bool false],.box [.int .i64 0,.int .i32 0,.int .u8 0,.int .u8 0]]=some (1≤r∧r≤100,.ret .undef,[.box ((.int .i64 0) :: (.int .i64 0) :: (.int .u32 0) :: (.int .u32 0) :: (.int .u8 0) :: (.int .u16 0) :: (.bool false) :: (.int .i64 k) :: (.int .i64 r) :: (.int .i64 k) :: (.int .i64 r) :: (.vec .cell L) :: (.int .i64 k) :: (.int .i64 r) :: (.vec .cell M) :: (.int .i64 0) :: (.bool false) :: (.int .i64 0) :: (.int .i64 (r - 1)) :: (.bool true) :: (.bool false) :: (.bool false) :: (.int .u8 0) :: (jcv (jc6 80)++[.int .i64 0,.int .i64 0,.int .u32 0,.int .u32 0,.int .u8 0,.int .u16 0,.bool false,.str (bs []),.nils,.int .i32 0,.ptr 1 0 0])),.box [.ptr 2 0 0,.int .i64 0,.bool false,.int .u8 0,.bool false,.nils,.nils,.bool false],.box [.int .i64 0,.int .i32 0,.int .u8 0,.int .u8 0]]):=jbd (α:=Int × Int × (List CD) × (List CD)) _ (fun ⟨k,r,L,M⟩ ⟨k',r',L',M'⟩ h=>by first | rfl | simpa [CP,jaP] using h | (simp [CP,jaP] at h ⊢; grind)) (k,r,L,M)
theorem juh:MutF Tryz.prog E0 121 msp_frame:=MutF.of fun ⟨k,r,L,M⟩ hG=>TF.intro (V:=(VV [] GOk.nil 30 3)) jdg rfl rfl (by
 dsimp only at hG ⊢
 have hr:=hG
 repeat' first | simp only [SB,E,MB,seval,rdB,ne_eq,implies_true,jg0,jbl,jbF,jbG,jb6,jb7,jbH,jb8,jb9,jca] | simp only [hw] | simp only [hw2] | simp only [hw3] | apply tA | apply tB | apply tC | apply tD | apply tE | apply tF | apply tG | apply tH | apply tI | apply tJ | apply tK | apply And.intro | (intro p0; have hyp:=p0; (try simp only [HB,ne_eq,reduceCtorEq] at hyp); (try simp only [p0]); (try clear p0); try (exfalso; omega; done)) | omega
 refine T.loop (fun i:Nat=>⟨[(0,.ptr 0 0 0),(14,.int .i64 i)],[.box ((.int .i64 0) :: (.int .i64 0) :: (.int .u32 0) :: (.int .u32 0) :: (.int .u8 0) :: (.int .u16 0) :: (.bool false) :: (.int .i64 k) :: (.int .i64 r) :: (.int .i64 k) :: (.int .i64 r) :: (.vec .cell L) :: (.int .i64 k) :: (.int .i64 r) :: (.vec .cell M) :: (.int .i64 0) :: (.bool false) :: (.int .i64 0) :: (.int .i64 (r - 1)) :: (.bool true) :: (.bool false) :: (.bool false) :: (.int .u8 0) :: (jcv (jc6 i)++[.int .i64 0,.int .i64 0,.int .u32 0,.int .u32 0,.int .u8 0,.int .u16 0,.bool false,.str (bs []),.nils,.int .i32 0,.ptr 1 0 0])),.box [.ptr 2 0 0,.int .i64 0,.bool false,.int .u8 0,.bool false,.nils,.nils,.bool false],.box [.int .i64 0,.int .i32 0,.int .u8 0,.int .u8 0]]⟩) (fun i=>i≤80) (fun i=>80 - i) 0 (by omega) (Cos.intro [0,1,2] [] rfl (by simp only [jc6]; (simp only [SB,E,MB,seval,rdB,ne_eq,implies_true,jg0,jbl,jbF,jbG,jb6,jb7,jbH,jb8,jb9,jca]; first | done | ((repeat' apply And.intro) <;> first | rfl | omega | (simp; done) | (simp; omega))))) (fun i hi=>?_)
 by_cases hi80:i < 80
 ·have hw:=fun B=>jug (tb:=jc6 i) (v:=decide ((i:Int) % 8=0) && decide (0 < (i:Int))) (B:=B) hi80
  have hw2:23+i * 1=i+23:=by omega
  have hw3:(i≤90)=True:=eq_true (by omega)
  have hts:jo3 (jc6 i) i (decide ((i:Int) % 8=0) && decide (0 < (i:Int)))=jc6 (i+1):=by
   simp only [jc6]
   congr 2 <;> exact decide_eq_decide.2 (by omega)
  repeat' first | simp only [SB,E,MB,seval,rdB,ne_eq,implies_true,jg0,jbl,jbF,jbG,jb6,jb7,jbH,jb8,jb9,jca] | simp only [hw] | simp only [hw2] | simp only [hw3] | apply tA | apply tB | apply tC | apply tD | apply tE | apply tF | apply tG | apply tH | apply tI | apply tJ | apply tK | apply And.intro | (intro p0; have hyp:=p0; (try simp only [HB,ne_eq,reduceCtorEq] at hyp); (try simp only [p0]); (try clear p0); try (exfalso; omega; done)) | omega
  exact ⟨i+1,by omega,by omega,Cos.intro [0,1,2] [] rfl (by rw [hts]; (simp only [SB,E,MB,seval,rdB,ne_eq,implies_true,jg0,jbl,jbF,jbG,jb6,jb7,jbH,jb8,jb9,jca]; first | done | ((repeat' apply And.intro) <;> first | rfl | omega | (simp; done) | (simp; omega))))⟩
 ·obtain rfl:i=80:=by omega
  repeat' first | simp only [SB,E,MB,seval,rdB,ne_eq,implies_true,jg0,jbl,jbF,jbG,jb6,jb7,jbH,jb8,jb9,jca] | simp only [hw] | simp only [hw2] | simp only [hw3] | refine T.seq ?_ | refine T.stm ?_ | refine T.rg ?_ | refine jac ?_ | refine jad ?_ | refine jae ?_ | refine T.cond ?_ | refine T.skip ?_ | refine T.ret ?_ | refine T.exit ?_ | refine T.block ?_ | refine Cos.intro [0,1,2] [] rfl ?_ | refine And.intro ?_ ?_ | (intro p0; have hyp:=p0; (try simp only [HB,ne_eq,reduceCtorEq] at hyp); (try simp only [p0]); (try clear p0); try (exfalso; omega; done)) | omega)
noncomputable def msp_enew:MSpec:=jcD (α:=Int × Int) (fun ⟨k,r⟩=>([.int .i64 k,.int .i64 r],[])) fun ⟨k,r⟩=>(jdJ k r=true,.ret (.tup [.ptr 0 0 0,.int .i64 0]),[.box ((.int .i64 0) :: (.int .i64 0) :: (.int .u32 0) :: (.int .u32 0) :: (.int .u8 0) :: (.int .u16 0) :: (.bool false) :: (.int .i64 k) :: (.int .i64 r) :: (.int .i64 k) :: (.int .i64 r) :: (.vec .cell (List.replicate (k.toNat * r.toNat) blank0)) :: (.int .i64 k) :: (.int .i64 r) :: (.vec .cell (List.replicate (k.toNat * r.toNat) blank0)) :: (.int .i64 0) :: (.bool false) :: (.int .i64 0) :: (.int .i64 (r - 1)) :: (.bool true) :: (.bool false) :: (.bool false) :: (.int .u8 0) :: (jcv (jc6 80)++[.int .i64 0,.int .i64 0,.int .u32 0,.int .u32 0,.int .u8 0,.int .u16 0,.bool false,.str (bs []),.nils,.int .i32 0,.ptr 1 0 0])),.box [.ptr 2 0 0,.int .i64 0,.bool false,.int .u8 0,.bool false,.nils,.nils,.bool false],.box [.int .i64 0,.int .i32 0,.int .u8 0,.int .u8 0]])
theorem jkc (k:Int) (r:Int):msp_enew [.int .i64 k,.int .i64 r] []=some (jdJ k r=true,.ret (.tup [.ptr 0 0 0,.int .i64 0]),[.box ((.int .i64 0) :: (.int .i64 0) :: (.int .u32 0) :: (.int .u32 0) :: (.int .u8 0) :: (.int .u16 0) :: (.bool false) :: (.int .i64 k) :: (.int .i64 r) :: (.int .i64 k) :: (.int .i64 r) :: (.vec .cell (List.replicate (k.toNat * r.toNat) blank0)) :: (.int .i64 k) :: (.int .i64 r) :: (.vec .cell (List.replicate (k.toNat * r.toNat) blank0)) :: (.int .i64 0) :: (.bool false) :: (.int .i64 0) :: (.int .i64 (r - 1)) :: (.bool true) :: (.bool false) :: (.bool false) :: (.int .u8 0) :: (jcv (jc6 80)++[.int .i64 0,.int .i64 0,.int .u32 0,.int .u32 0,.int .u8 0,.int .u16 0,.bool false,.str (bs []),.nils,.int .i32 0,.ptr 1 0 0])),.box [.ptr 2 0 0,.int .i64 0,.bool false,.int .u8 0,.bool false,.nils,.nils,.bool false],.box [.int .i64 0,.int .i32 0,.int .u8 0,.int .u8 0]]):=jbd (α:=Int × Int) _ (fun ⟨k,r⟩ ⟨k',r'⟩ h=>by first | rfl | simpa [CP,jaP] using h | (simp [CP,jaP] at h ⊢; grind)) (k,r)
theorem jwb:MutF Tryz.prog E0 89 msp_enew:=MutF.of fun ⟨k,r⟩ hG=>TF.intro (V:=(VV [(119,conA [.any,.any] sp_gnew),(120,conM msp_pnew),(121,conM msp_frame)] (.cons (jaa jh0) (Alias.soundA jv0) (.cons (jaa jgZ) (MutF.soundM jwa) (.cons (jaa jdg) (MutF.soundM juh) GOk.nil))) 37 0)) jh8 rfl rfl (by
 dsimp only at hG ⊢
 have hw:=hG
 have hf:=jfl.1 hG
 repeat' first | simp only [SB,E,MB,seval,rdB,ne_eq,implies_true,jkR,jkb,jis,jg0,jbl,jbF,jbG,jb6,jb7,jbH,jb8,jb9,jca] | simp only [hw] | apply tA | apply tB | apply tC | apply tD | apply tE | apply tF | apply tG | apply tH | apply tI | apply tJ | apply tK | apply And.intro | (intro p0; have hyp:=p0; (try simp only [HB,ne_eq,reduceCtorEq] at hyp); (try simp only [p0]); (try clear p0); try (exfalso; omega; done)) | omega
 exact Cos.intro [4,2,3] [] rfl (by (simp only [SB,E,MB,seval,rdB,ne_eq,implies_true,jkR,jkb,jis,jg0,jbl,jbF,jbG,jb6,jb7,jbH,jb8,jb9,jca]; first | done | ((repeat' apply And.intro) <;> first | rfl | omega | (simp; done) | (simp; omega)))))
noncomputable def msp_here:MSpec:=jcD (α:=Int × Int × (List CD) × (List CD)) (fun ⟨k,r,L,M⟩=>([.ptr 0 0 0],[.box ((.int .i64 0) :: (.int .i64 0) :: (.int .u32 0) :: (.int .u32 0) :: (.int .u8 0) :: (.int .u16 0) :: (.bool false) :: (.int .i64 k) :: (.int .i64 r) :: (.int .i64 k) :: (.int .i64 r) :: (.vec .cell L) :: (.int .i64 k) :: (.int .i64 r) :: (.vec .cell M) :: (.int .i64 0) :: (.bool false) :: (.int .i64 0) :: (.int .i64 (r - 1)) :: (.bool true) :: (.bool false) :: (.bool false) :: (.int .u8 0) :: (jcv (jc6 80)++[.int .i64 0,.int .i64 0,.int .u32 0,.int .u32 0,.int .u8 0,.int .u16 0,.bool false,.str (bs []),.nils,.int .i32 0,.ptr 1 0 0])),.box [.ptr 2 0 0,.int .i64 0,.bool false,.int .u8 0,.bool false,.nils,.nils,.bool false],.box [.int .i64 0,.int .i32 0,.int .u8 0,.int .u8 0]])) fun ⟨k,r,L,M⟩=>(True,.ret (.agg [.int .i64 k,.int .i64 r,.vec .cell L]),[.box ((.int .i64 0) :: (.int .i64 0) :: (.int .u32 0) :: (.int .u32 0) :: (.int .u8 0) :: (.int .u16 0) :: (.bool false) :: (.int .i64 k) :: (.int .i64 r) :: (.int .i64 k) :: (.int .i64 r) :: (.vec .cell L) :: (.int .i64 k) :: (.int .i64 r) :: (.vec .cell M) :: (.int .i64 0) :: (.bool false) :: (.int .i64 0) :: (.int .i64 (r - 1)) :: (.bool true) :: (.bool false) :: (.bool false) :: (.int .u8 0) :: (jcv (jc6 80)++[.int .i64 0,.int .i64 0,.int .u32 0,.int .u32 0,.int .u8 0,.int .u16 0,.bool false,.str (bs []),.nils,.int .i32 0,.ptr 1 0 0])),.box [.ptr 2 0 0,.int .i64 0,.bool false,.int .u8 0,.bool false,.nils,.nils,.bool false],.box [.int .i64 0,.int .i32 0,.int .u8 0,.int .u8 0]])
theorem jkd (k:Int) (r:Int) (L:List CD) (M:List CD):msp_here [.ptr 0 0 0] [.box ((.int .i64 0) :: (.int .i64 0) :: (.int .u32 0) :: (.int .u32 0) :: (.int .u8 0) :: (.int .u16 0) :: (.bool false) :: (.int .i64 k) :: (.int .i64 r) :: (.int .i64 k) :: (.int .i64 r) :: (.vec .cell L) :: (.int .i64 k) :: (.int .i64 r) :: (.vec .cell M) :: (.int .i64 0) :: (.bool false) :: (.int .i64 0) :: (.int .i64 (r - 1)) :: (.bool true) :: (.bool false) :: (.bool false) :: (.int .u8 0) :: (jcv (jc6 80)++[.int .i64 0,.int .i64 0,.int .u32 0,.int .u32 0,.int .u8 0,.int .u16 0,.bool false,.str (bs []),.nils,.int .i32 0,.ptr 1 0 0])),.box [.ptr 2 0 0,.int .i64 0,.bool false,.int .u8 0,.bool false,.nils,.nils,.bool false],.box [.int .i64 0,.int .i32 0,.int .u8 0,.int .u8 0]]=some (True,.ret (.agg [.int .i64 k,.int .i64 r,.vec .cell L]),[.box ((.int .i64 0) :: (.int .i64 0) :: (.int .u32 0) :: (.int .u32 0) :: (.int .u8 0) :: (.int .u16 0) :: (.bool false) :: (.int .i64 k) :: (.int .i64 r) :: (.int .i64 k) :: (.int .i64 r) :: (.vec .cell L) :: (.int .i64 k) :: (.int .i64 r) :: (.vec .cell M) :: (.int .i64 0) :: (.bool false) :: (.int .i64 0) :: (.int .i64 (r - 1)) :: (.bool true) :: (.bool false) :: (.bool false) :: (.int .u8 0) :: (jcv (jc6 80)++[.int .i64 0,.int .i64 0,.int .u32 0,.int .u32 0,.int .u8 0,.int .u16 0,.bool false,.str (bs []),.nils,.int .i32 0,.ptr 1 0 0])),.box [.ptr 2 0 0,.int .i64 0,.bool false,.int .u8 0,.bool false,.nils,.nils,.bool false],.box [.int .i64 0,.int .i32 0,.int .u8 0,.int .u8 0]]):=jbd (α:=Int × Int × (List CD) × (List CD)) _ (fun ⟨k,r,L,M⟩ ⟨k',r',L',M'⟩ h=>by first | rfl | simpa [CP,jaP] using h | (simp [CP,jaP] at h ⊢; grind)) (k,r,L,M)
theorem jwc:MutF Tryz.prog E0 123 msp_here:=MutF.of fun ⟨k,r,L,M⟩ hG=>TF.intro (V:=(VV [] GOk.nil 12 3)) jdK rfl rfl (by
 dsimp only at hG ⊢
 repeat' first | simp only [SB,E,MB,seval,rdB,ne_eq,implies_true,jg0,jbl,jbF,jbG,jb6,jb7,jbH,jb8,jb9,jca] | apply tA | apply tB | apply tC | apply tD | apply tE | apply tF | apply tG | apply tH | apply tI | apply tJ | apply tK | apply And.intro | (intro p0; have hyp:=p0; (try simp only [HB,ne_eq,reduceCtorEq] at hyp); (try simp only [p0]); (try clear p0); try (exfalso; omega; done)) | omega
 exact Cos.intro [0,1,2] [] rfl (by (simp only [SB,E,MB,seval,rdB,ne_eq,implies_true,jg0,jbl,jbF,jbG,jb6,jb7,jbH,jb8,jb9,jca]; first | done | ((repeat' apply And.intro) <;> first | rfl | omega | (simp; done) | (simp; omega)))))
noncomputable def msp_tscreen:MSpec:=jcD (α:=Int × Int × (List CD) × (List CD)) (fun ⟨k,r,L,M⟩=>([.ptr 0 0 0],[.box ((.int .i64 0) :: (.int .i64 0) :: (.int .u32 0) :: (.int .u32 0) :: (.int .u8 0) :: (.int .u16 0) :: (.bool false) :: (.int .i64 k) :: (.int .i64 r) :: (.int .i64 k) :: (.int .i64 r) :: (.vec .cell L) :: (.int .i64 k) :: (.int .i64 r) :: (.vec .cell M) :: (.int .i64 0) :: (.bool false) :: (.int .i64 0) :: (.int .i64 (r - 1)) :: (.bool true) :: (.bool false) :: (.bool false) :: (.int .u8 0) :: (jcv (jc6 80)++[.int .i64 0,.int .i64 0,.int .u32 0,.int .u32 0,.int .u8 0,.int .u16 0,.bool false,.str (bs []),.nils,.int .i32 0,.ptr 1 0 0])),.box [.ptr 2 0 0,.int .i64 0,.bool false,.int .u8 0,.bool false,.nils,.nils,.bool false],.box [.int .i64 0,.int .i32 0,.int .u8 0,.int .u8 0]])) fun ⟨k,r,L,M⟩=>(L.length≤60000∧(∀ c∈L,0≤c.link∧c.link < 65536),.ret (.agg [.int .i64 k,.int .i64 r,.slice 3 0 6 L.length L.length,.int .i64 0,.int .i64 0,.bool false,.int .u8 0,.str (bs []),.slice 4 0 1 (jaj [] L).length (jaj [] L).length]),[.box ((.int .i64 0) :: (.int .i64 0) :: (.int .u32 0) :: (.int .u32 0) :: (.int .u8 0) :: (.int .u16 0) :: (.bool false) :: (.int .i64 k) :: (.int .i64 r) :: (.int .i64 k) :: (.int .i64 r) :: (.vec .cell L) :: (.int .i64 k) :: (.int .i64 r) :: (.vec .cell M) :: (.int .i64 0) :: (.bool false) :: (.int .i64 0) :: (.int .i64 (r - 1)) :: (.bool true) :: (.bool false) :: (.bool false) :: (.int .u8 0) :: (jcv (jc6 80)++[.int .i64 0,.int .i64 0,.int .u32 0,.int .u32 0,.int .u8 0,.int .u16 0,.bool false,.str (bs []),.nils,.int .i32 0,.ptr 1 0 0])),.box [.ptr 2 0 0,.int .i64 0,.bool false,.int .u8 0,.bool false,.nils,.nils,.bool false],.box [.int .i64 0,.int .i32 0,.int .u8 0,.int .u8 0],.seq .cell (L.map (jbf [] (jaj [] L))),.seq .str (jaj [] L)])
theorem jgz (k:Int) (r:Int) (L:List CD) (M:List CD):msp_tscreen [.ptr 0 0 0] [.box ((.int .i64 0) :: (.int .i64 0) :: (.int .u32 0) :: (.int .u32 0) :: (.int .u8 0) :: (.int .u16 0) :: (.bool false) :: (.int .i64 k) :: (.int .i64 r) :: (.int .i64 k) :: (.int .i64 r) :: (.vec .cell L) :: (.int .i64 k) :: (.int .i64 r) :: (.vec .cell M) :: (.int .i64 0) :: (.bool false) :: (.int .i64 0) :: (.int .i64 (r - 1)) :: (.bool true) :: (.bool false) :: (.bool false) :: (.int .u8 0) :: (jcv (jc6 80)++[.int .i64 0,.int .i64 0,.int .u32 0,.int .u32 0,.int .u8 0,.int .u16 0,.bool false,.str (bs []),.nils,.int .i32 0,.ptr 1 0 0])),.box [.ptr 2 0 0,.int .i64 0,.bool false,.int .u8 0,.bool false,.nils,.nils,.bool false],.box [.int .i64 0,.int .i32 0,.int .u8 0,.int .u8 0]]=some (L.length≤60000∧(∀ c∈L,0≤c.link∧c.link < 65536),.ret (.agg [.int .i64 k,.int .i64 r,.slice 3 0 6 L.length L.length,.int .i64 0,.int .i64 0,.bool false,.int .u8 0,.str (bs []),.slice 4 0 1 (jaj [] L).length (jaj [] L).length]),[.box ((.int .i64 0) :: (.int .i64 0) :: (.int .u32 0) :: (.int .u32 0) :: (.int .u8 0) :: (.int .u16 0) :: (.bool false) :: (.int .i64 k) :: (.int .i64 r) :: (.int .i64 k) :: (.int .i64 r) :: (.vec .cell L) :: (.int .i64 k) :: (.int .i64 r) :: (.vec .cell M) :: (.int .i64 0) :: (.bool false) :: (.int .i64 0) :: (.int .i64 (r - 1)) :: (.bool true) :: (.bool false) :: (.bool false) :: (.int .u8 0) :: (jcv (jc6 80)++[.int .i64 0,.int .i64 0,.int .u32 0,.int .u32 0,.int .u8 0,.int .u16 0,.bool false,.str (bs []),.nils,.int .i32 0,.ptr 1 0 0])),.box [.ptr 2 0 0,.int .i64 0,.bool false,.int .u8 0,.bool false,.nils,.nils,.bool false],.box [.int .i64 0,.int .i32 0,.int .u8 0,.int .u8 0],.seq .cell (L.map (jbf [] (jaj [] L))),.seq .str (jaj [] L)]):=jbd (α:=Int × Int × (List CD) × (List CD)) _ (fun ⟨k,r,L,M⟩ ⟨k',r',L',M'⟩ h=>by first | rfl | simpa [CP,jaP] using h | (simp [CP,jaP] at h ⊢; grind)) (k,r,L,M)
theorem jp7:MutF Tryz.prog E0 90 msp_tscreen:=MutF.of fun ⟨k,r,L,M⟩ hG=>TF.intro (V:=(VV [(123,conM msp_here),(122,conT [.sl .cell,.sl .str] sp_lcanon)] (.cons (jaa jdK) (MutF.soundM jwc) (.cons (jaa jft) (Fresh.soundT jsm) GOk.nil)) 52 3)) jc4 rfl rfl (by
 dsimp only at hG ⊢
 obtain ⟨hl,hc⟩:=hG
 repeat' first | exact hc | simp only [SB,E,MB,seval,rdB,ne_eq,implies_true,jkd,jip,jg0,jbl,jbF,jbG,jb6,jb7,jbH,jb8,jb9,jca] | apply tA | apply tB | apply tC | apply tD | apply tE | apply tF | apply tG | apply tH | apply tI | apply tJ | apply tK | apply And.intro | (intro p0; have hyp:=p0; (try simp only [HB,ne_eq,reduceCtorEq] at hyp); (try simp only [p0]); (try clear p0); try (exfalso; omega; done)) | omega
 refine Cos.intro [0,1,2,4,5] [] rfl ?_
 simp only [SB,E,MB,seval,rdB,ne_eq,implies_true,jkd,jip,jg0,jbl,jbF,jbG,jb6,jb7,jbH,jb8,jb9,jca]
 simp)
theorem jui (n:Nat):∀ c∈List.replicate n blank0,0≤c.link∧c.link < 65536:=fun c hc=>by
 rw [List.eq_of_mem_replicate hc]
 decide
noncomputable def sp_pblank:Spec:=spOf (α:=Int × Int) (fun ⟨k,r⟩=>[.int .i64 k,.int .i64 r]) fun ⟨k,r⟩=>(jdJ k r=true,.ret (.tup [.agg [.int .i64 k,.int .i64 r,.vec .cell (List.replicate (k.toNat * r.toNat) blank0),.int .i64 0,.int .i64 0,.bool false,.int .u8 0,.str (bs []),.vec .str []],.int .i64 0]))
theorem jax (k:Int) (r:Int):sp_pblank [.int .i64 k,.int .i64 r]=some (jdJ k r=true,.ret (.tup [.agg [.int .i64 k,.int .i64 r,.vec .cell (List.replicate (k.toNat * r.toNat) blank0),.int .i64 0,.int .i64 0,.bool false,.int .u8 0,.str (bs []),.vec .str []],.int .i64 0])):=jar (α:=Int × Int) _ (fun ⟨k,r⟩ ⟨k',r'⟩ h=>by first | simpa [CP] using h | (simp [CP] at h ⊢; grind)) (k,r)
theorem jmU:Fresh Tryz.prog E0 48 sp_pblank:=Fresh.of fun ⟨k,r⟩ hG=>TF.intro (V:=(VV [(89,conM msp_enew),(90,conM msp_tscreen)] (.cons (jaa jh8) (MutF.soundM jwb) (.cons (jaa jc4) (MutF.soundM jp7) GOk.nil)) 20 0)) jc5 rfl rfl (by
 dsimp only at hG ⊢
 have hf:=jfl.1 hG
 have hkr:k.toNat * r.toNat≤80 * 24:=Nat.mul_le_mul (by omega) (by omega)
 have hw:=jnL [] (k.toNat * r.toNat)
 have hw2:=jjP [] [] (k.toNat * r.toNat)
 repeat' first | exact hG | exact jui _ | simp only [SB,E,MB,seval,rdB,ne_eq,implies_true,jkc,jgz,jg0,jbl,jbF,jbG,jb6,jb7,jbH,jb8,jb9,jca] | simp only [hw] | simp only [hw2] | apply tA | apply tB | apply tC | apply tD | apply tE | apply tF | apply tG | apply tH | apply tI | apply tJ | apply tK | apply And.intro | (intro p0; have hyp:=p0; (try simp only [HB,ne_eq,reduceCtorEq] at hyp); (try simp only [p0]); (try clear p0); try (exfalso; omega; done)) | omega
 exact Cos.intro [4,5] [] rfl (by (simp only [SB,E,MB,seval,rdB,ne_eq,implies_true,jkc,jgz,jg0,jbl,jbF,jbG,jb6,jb7,jbH,jb8,jb9,jca]; first | done | ((repeat' apply And.intro) <;> first | rfl | omega | (simp; done) | (simp; omega)))))
end
end Go.Proofs.YtcfkfgkndncanaaGreatDoor
