/- Texts of this claim, merged by a program of this claim: FCell. -/
import Derived.Test.YtcfkfgkndncanaaGreatDoorMt13
import Derived.Test.YtcfkfgkndncanaaGreatDoorMt16
import Derived.Test.YtcfkfgkndncanaaGreatDoorMt6
namespace Go.Proofs.YtcfkfgkndncanaaGreatDoor
set_option linter.unusedVariables false
set_option linter.unusedSimpArgs false
section
open Go.RowKit
set_option maxRecDepth 100000
set_option maxHeartbeats 4000000
theorem Cos.nilRow {h:KH} {t:ETy} {L:List t.T} (e:L=[]):Cos 0 ⟨[(0,.nils)],h⟩ ⟨[(0,.slice 0 0 t.esz L.length L.length)],[.seq t L]⟩:=by
 subst e
 refine Cos.intro [h.length] [] (by simp [jgp,imgs,jbT]) ⟨?_,?_⟩
 ·simp [crsH,jcw]
 ·simp [crsF,Fr.get,crs]
def jex (c:Int):Bool:=decide (c≤256) || (decide (16777216≤c) && decide (c≤33554431))
def penB (p:PD):Bool:=jex p.fg && jex p.bg
def mayB (c:CD):Bool:=penB c.pen && ((c.wide == 0 && Utf.width c.rune == 1) || (c.wide == 1 && Utf.width c.rune == 2) || (c.wide == 2 && c.rune == 0))
def jgv (p:PD):CD:=⟨32,0,0,p.bg,0,0⟩
def penSame (p q:PD):Bool:=decide (p=q)
def jga (p q:CD):Bool:=decide (p=q)
theorem ibeq (a b:Int):(a == b)=decide (a=b):=by by_cases h:a=b <;> simp [h]
theorem nbeq (a b:Nat):(a == b)=decide (a=b):=by by_cases h:a=b <;> simp [h]
noncomputable def sp_color:Spec:=spOf (α:=Int) (fun c=>[.int .u32 c]) fun c=>(True,.ret (.bool (jex c)))
theorem jea (c:Int):sp_color [.int .u32 c]=some (True,.ret (.bool (jex c))):=jar (α:=Int) _ (fun c c' h=>by first | simpa [CP] using h | (simp [CP] at h ⊢; grind)) c
theorem jtQ:Alias Tryz.prog E0 127 sp_color:=Alias.of fun c hG=>TF.intro (V:=(VV [] GOk.nil 13 0)) jcl rfl rfl (by
 dsimp only at hG ⊢
 repeat' first | simp only [SB,E,seval,rdB,ne_eq,implies_true,List.drop_replicate] | refine T.seq ?_ | refine T.stm ?_ | refine T.rg ?_ | refine jac ?_ | refine jad ?_ | refine jae ?_ | refine T.cond ?_ | refine T.skip ?_ | refine T.ret ?_ | refine T.exit ?_ | refine T.block ?_ | refine Cos.intro [] [] rfl ?_ | refine And.intro ?_ ?_ | (intro p0; have hyp:=p0; (try simp only [HB,ne_eq,reduceCtorEq] at hyp); (try simp only [p0]); (try clear p0); try (exfalso; omega; done)) | omega
 rfl)
theorem jlK:Fresh Tryz.prog E0 127 sp_color:=Alias.fresh jtQ (fun x=>rfl)
noncomputable def sp_rcolor:Spec:=spOf (α:=Int) (fun c=>[.int .u32 c]) fun c=>(True,.ret (.bool (jex c)))
theorem jmB (c:Int):sp_rcolor [.int .u32 c]=some (True,.ret (.bool (jex c))):=jar (α:=Int) _ (fun c c' h=>by first | simpa [CP] using h | (simp [CP] at h ⊢; grind)) c
theorem jry:Alias Tryz.prog E0 74 sp_rcolor:=Alias.of fun c hG=>TF.intro (V:=(VV [] GOk.nil 13 0)) jgu rfl rfl (by
 dsimp only at hG ⊢
 repeat' first | simp only [SB,E,seval,rdB,ne_eq,implies_true,List.drop_replicate] | refine T.seq ?_ | refine T.stm ?_ | refine T.rg ?_ | refine jac ?_ | refine jad ?_ | refine jae ?_ | refine T.cond ?_ | refine T.skip ?_ | refine T.ret ?_ | refine T.exit ?_ | refine T.block ?_ | refine Cos.intro [] [] rfl ?_ | refine And.intro ?_ ?_ | (intro p0; have hyp:=p0; (try simp only [HB,ne_eq,reduceCtorEq] at hyp); (try simp only [p0]); (try clear p0); try (exfalso; omega; done)) | omega
 rw [jex,show decide (c < 33554432)=decide (c≤33554431) from decide_eq_decide.2 (by omega)])
theorem jrz:Fresh Tryz.prog E0 74 sp_rcolor:=Alias.fresh jry (fun x=>rfl)
noncomputable def sp_cpen:Spec:=spOf (α:=PD) (fun p=>[penV p]) fun p=>(True,.ret (.bool (penB p)))
theorem jpH (p:PD):sp_cpen [penV p]=some (True,.ret (.bool (penB p))):=jar (α:=PD) _ (fun p p' h=>by first | simpa [CP] using h | (simp [CP] at h ⊢; grind)) p
theorem jvI:Alias Tryz.prog E0 129 sp_cpen:=Alias.of fun p hG=>TF.intro (V:=(VV [(127,conF [.any] sp_color)] (.cons (jaa jcl) (Fresh.soundF jlK) GOk.nil) 11 0)) jfe rfl rfl (by
 dsimp only at hG ⊢
 repeat' first | simp only [SB,E,seval,rdB,ne_eq,implies_true,jea,List.drop_replicate] | refine T.seq ?_ | refine T.stm ?_ | refine T.rg ?_ | refine jac ?_ | refine jad ?_ | refine jae ?_ | refine T.cond ?_ | refine T.skip ?_ | refine T.ret ?_ | refine T.exit ?_ | refine T.block ?_ | refine Cos.intro [] [] rfl ?_ | refine And.intro ?_ ?_ | (intro p0; have hyp:=p0; (try simp only [HB,ne_eq,reduceCtorEq] at hyp); (try simp only [p0]); (try clear p0); try (exfalso; omega; done)) | omega
 rfl)
theorem jvJ:Fresh Tryz.prog E0 129 sp_cpen:=Alias.fresh jvI (fun x=>rfl)
noncomputable def sp_gpen:Spec:=spOf (α:=PD) (fun p=>[penV p]) fun p=>(True,.ret (.bool (penB p)))
theorem jpI (p:PD):sp_gpen [penV p]=some (True,.ret (.bool (penB p))):=jar (α:=PD) _ (fun p p' h=>by first | simpa [CP] using h | (simp [CP] at h ⊢; grind)) p
theorem jvK:Alias Tryz.prog E0 130 sp_gpen:=Alias.of fun p hG=>TF.intro (V:=(VV [(127,conF [.any] sp_color)] (.cons (jaa jcl) (Fresh.soundF jlK) GOk.nil) 11 0)) jfg rfl rfl (by
 dsimp only at hG ⊢
 repeat' first | simp only [SB,E,seval,rdB,ne_eq,implies_true,jea,List.drop_replicate] | refine T.seq ?_ | refine T.stm ?_ | refine T.rg ?_ | refine jac ?_ | refine jad ?_ | refine jae ?_ | refine T.cond ?_ | refine T.skip ?_ | refine T.ret ?_ | refine T.exit ?_ | refine T.block ?_ | refine Cos.intro [] [] rfl ?_ | refine And.intro ?_ ?_ | (intro p0; have hyp:=p0; (try simp only [HB,ne_eq,reduceCtorEq] at hyp); (try simp only [p0]); (try clear p0); try (exfalso; omega; done)) | omega
 rfl)
theorem jvL:Fresh Tryz.prog E0 130 sp_gpen:=Alias.fresh jvK (fun x=>rfl)
noncomputable def sp_rpen:Spec:=spOf (α:=PD) (fun p=>[penV p]) fun p=>(True,.ret (.bool (penB p)))
theorem jpJ (p:PD):sp_rpen [penV p]=some (True,.ret (.bool (penB p))):=jar (α:=PD) _ (fun p p' h=>by first | simpa [CP] using h | (simp [CP] at h ⊢; grind)) p
theorem jvM:Alias Tryz.prog E0 50 sp_rpen:=Alias.of fun p hG=>TF.intro (V:=(VV [(74,conF [.any] sp_rcolor)] (.cons (jaa jgu) (Fresh.soundF jrz) GOk.nil) 11 0)) jij rfl rfl (by
 dsimp only at hG ⊢
 repeat' first | simp only [SB,E,seval,rdB,ne_eq,implies_true,jmB,List.drop_replicate] | refine T.seq ?_ | refine T.stm ?_ | refine T.rg ?_ | refine jac ?_ | refine jad ?_ | refine jae ?_ | refine T.cond ?_ | refine T.skip ?_ | refine T.ret ?_ | refine T.exit ?_ | refine T.block ?_ | refine Cos.intro [] [] rfl ?_ | refine And.intro ?_ ?_ | (intro p0; have hyp:=p0; (try simp only [HB,ne_eq,reduceCtorEq] at hyp); (try simp only [p0]); (try clear p0); try (exfalso; omega; done)) | omega
 rfl)
theorem jvN:Fresh Tryz.prog E0 50 sp_rpen:=Alias.fresh jvM (fun x=>rfl)
noncomputable def sp_cblank:Spec:=spOf (α:=PD) (fun p=>[penV p]) fun p=>(True,.ret (jb3 (jgv p)))
theorem jaw (p:PD):sp_cblank [penV p]=some (True,.ret (jb3 (jgv p))):=jar (α:=PD) _ (fun p p' h=>by first | simpa [CP] using h | (simp [CP] at h ⊢; grind)) p
theorem jrA:Alias Tryz.prog E0 126 sp_cblank:=Alias.of fun p hG=>TF.intro (V:=(VV [] GOk.nil 7 0)) jdw rfl rfl (by
 dsimp only at hG ⊢
 repeat' first | simp only [SB,E,seval,rdB,ne_eq,implies_true,List.drop_replicate] | refine T.seq ?_ | refine T.stm ?_ | refine T.rg ?_ | refine jac ?_ | refine jad ?_ | refine jae ?_ | refine T.cond ?_ | refine T.skip ?_ | refine T.ret ?_ | refine T.exit ?_ | refine T.block ?_ | refine Cos.intro [] [] rfl ?_ | refine And.intro ?_ ?_ | (intro p0; have hyp:=p0; (try simp only [HB,ne_eq,reduceCtorEq] at hyp); (try simp only [p0]); (try clear p0); try (exfalso; omega; done)) | omega
 all_goals rfl)
theorem jjz:Fresh Tryz.prog E0 126 sp_cblank:=Alias.fresh jrA (fun x=>rfl)
noncomputable def sp_cmay:Spec:=spOf (α:=CD) (fun c=>[jb3 c]) fun c=>(I32 c.rune,.ret (.bool (mayB c)))
theorem jeS (c:CD):sp_cmay [jb3 c]=some (I32 c.rune,.ret (.bool (mayB c))):=jar (α:=CD) _ (fun c c' h=>by first | simpa [CP] using h | (simp [CP] at h ⊢; grind)) c
theorem jvO:Alias Tryz.prog E0 124 sp_cmay:=Alias.of fun c hG=>TF.intro (V:=(VV [(129,conF [.any] sp_cpen),(59,conF [.any] sp_width)] (.cons (jaa jfe) (Fresh.soundF jvJ) (.cons (jaa jd7) (Fresh.soundF jlJ) GOk.nil)) 29 0)) jhU rfl rfl (by
 dsimp only at hG ⊢
 repeat' first | simp only [SB,E,seval,rdB,ne_eq,implies_true,jpH,jaM,List.drop_replicate] | refine T.seq ?_ | refine T.stm ?_ | refine T.rg ?_ | refine jac ?_ | refine jad ?_ | refine jae ?_ | refine T.cond ?_ | refine T.skip ?_ | refine T.ret ?_ | refine T.exit ?_ | refine T.block ?_ | refine Cos.intro [] [] rfl ?_ | refine And.intro ?_ ?_ | (intro p0; have hyp:=p0; (try simp only [HB,ne_eq,reduceCtorEq] at hyp); (try simp only [p0]); (try clear p0); try (exfalso; omega; done)) | omega
 all_goals simp_all [mayB,ibeq])
theorem jvP:Fresh Tryz.prog E0 124 sp_cmay:=Alias.fresh jvO (fun x=>rfl)
noncomputable def sp_rmay:Spec:=spOf (α:=CD) (fun c=>[jb3 c]) fun c=>(I32 c.rune,.ret (.bool (mayB c)))
theorem jgb (c:CD):sp_rmay [jb3 c]=some (I32 c.rune,.ret (.bool (mayB c))):=jar (α:=CD) _ (fun c c' h=>by first | simpa [CP] using h | (simp [CP] at h ⊢; grind)) c
theorem jvQ:Alias Tryz.prog E0 110 sp_rmay:=Alias.of fun c hG=>TF.intro (V:=(VV [(50,conF [.any] sp_rpen),(46,conF [.any] sp_r7width)] (.cons (jaa jij) (Fresh.soundF jvN) (.cons (jaa jgP) (Fresh.soundF jkH) GOk.nil)) 38 0)) jmA rfl rfl (by
 dsimp only at hG ⊢
 repeat' first | simp only [SB,E,seval,rdB,ne_eq,implies_true,jpJ,jcs,List.drop_replicate] | refine T.seq ?_ | refine T.stm ?_ | refine T.rg ?_ | refine jac ?_ | refine jad ?_ | refine jae ?_ | refine T.cond ?_ | refine T.skip ?_ | refine T.ret ?_ | refine T.exit ?_ | refine T.block ?_ | refine Cos.intro [] [] rfl ?_ | refine And.intro ?_ ?_ | (intro p0; have hyp:=p0; (try simp only [HB,ne_eq,reduceCtorEq] at hyp); (try simp only [p0]); (try clear p0); try (exfalso; omega; done)) | omega
 simp only [mayB,ibeq])
theorem jvR:Fresh Tryz.prog E0 110 sp_rmay:=Alias.fresh jvQ (fun x=>rfl)
noncomputable def sp_rsame:Spec:=spOf (α:=(List CD) × (List CD)) (fun ⟨L,M⟩=>[.vec .cell L,.vec .cell M]) fun ⟨L,M⟩=>(L.length≤4611686018427387904∧M.length≤4611686018427387904,.ret (.bool (decide (L=M))))
theorem jnw (L:List CD) (M:List CD):sp_rsame [.vec .cell L,.vec .cell M]=some (L.length≤4611686018427387904∧M.length≤4611686018427387904,.ret (.bool (decide (L=M)))):=jar (α:=(List CD) × (List CD)) _ (fun ⟨L,M⟩ ⟨L',M'⟩ h=>by first | simpa [CP] using h | (simp [CP] at h ⊢; grind)) (L,M)
theorem jtR:Alias Tryz.prog E0 75 sp_rsame:=Alias.of fun ⟨L,M⟩ hG=>TF.intro (V:=(VV [] GOk.nil 26 0)) jkL rfl rfl (by
 dsimp only at hG ⊢
 repeat' first | simp only [SB,E,seval,rdB,ne_eq,implies_true,List.drop_replicate] | refine T.seq ?_ | refine T.stm ?_ | refine T.rg ?_ | refine jac ?_ | refine jad ?_ | refine jae ?_ | refine T.cond ?_ | refine T.skip ?_ | refine T.ret ?_ | refine T.exit ?_ | refine T.block ?_ | refine Cos.intro [] [] rfl ?_ | refine And.intro ?_ ?_ | (intro p0; have hyp:=p0; (try simp only [HB,ne_eq,reduceCtorEq] at hyp); (try simp only [p0]); (try clear p0); try (exfalso; omega; done)) | omega
 ·exact (decide_eq_false fun e=>by subst e; omega).symm
 ·refine T.loop (fun k:Nat=>⟨[(0,.vec .cell L),(1,.vec .cell M),(12,.int .i64 L.length),(13,.int .i64 k)],[]⟩) (fun k=>k≤L.length∧∀ j,j < k→L[j]?=M[j]?) (fun k=>L.length - k) 0 ⟨by omega,fun j hj=>by omega⟩ (Cos.intro [] [] rfl (by (simp only [SB,E,seval,rdB,ne_eq,implies_true,List.drop_replicate]); first | done | (repeat' apply And.intro) <;> first | rfl | omega | simp)) (fun k ⟨hk,hall⟩=>?_)
  repeat' first | simp only [SB,E,seval,rdB,ne_eq,implies_true,List.drop_replicate] | refine T.seq ?_ | refine T.stm ?_ | refine T.rg ?_ | refine jac ?_ | refine jad ?_ | refine jae ?_ | refine T.cond ?_ | refine T.skip ?_ | refine T.ret ?_ | refine T.exit ?_ | refine T.block ?_ | refine Cos.intro [] [] rfl ?_ | exact ⟨k+1,⟨by omega,jfP (by omega) (by omega) hyp hall⟩,by omega,(Cos.intro [] [] rfl (by (simp only [SB,E,seval,rdB,ne_eq,implies_true,List.drop_replicate]); first | done | (repeat' apply And.intro) <;> first | rfl | omega | simp))⟩ | refine And.intro ?_ ?_ | (intro p0; have hyp:=p0; (try simp only [HB,ne_eq,reduceCtorEq] at hyp); (try simp only [p0]); (try clear p0); try (exfalso; omega; done)) | omega
  ·exact (decide_eq_false fun e=>by subst e; exact hyp rfl).symm
  ·exact (decide_eq_true (jhi (by omega) (by omega) hall)).symm)
theorem jtS:Fresh Tryz.prog E0 75 sp_rsame:=Alias.fresh jtR (fun x=>rfl)
noncomputable def sp_equal:Spec:=spOf (α:=(List CD) × (List CD)) (fun ⟨L,M⟩=>[.vec .cell L,.vec .cell M]) fun ⟨L,M⟩=>(L.length≤4611686018427387904∧M.length≤4611686018427387904,.ret (.bool (decide (L=M))))
theorem ja9 (L:List CD) (M:List CD):sp_equal [.vec .cell L,.vec .cell M]=some (L.length≤4611686018427387904∧M.length≤4611686018427387904,.ret (.bool (decide (L=M)))):=jar (α:=(List CD) × (List CD)) _ (fun ⟨L,M⟩ ⟨L',M'⟩ h=>by first | simpa [CP] using h | (simp [CP] at h ⊢; grind)) (L,M)
theorem jtT:Alias Tryz.prog E0 116 sp_equal:=Alias.of fun ⟨L,M⟩ hG=>TF.intro (V:=(VV [] GOk.nil 26 0)) jb5 rfl rfl (by
 dsimp only at hG ⊢
 repeat' first | simp only [SB,E,seval,rdB,ne_eq,implies_true,List.drop_replicate] | refine T.seq ?_ | refine T.stm ?_ | refine T.rg ?_ | refine jac ?_ | refine jad ?_ | refine jae ?_ | refine T.cond ?_ | refine T.skip ?_ | refine T.ret ?_ | refine T.exit ?_ | refine T.block ?_ | refine Cos.intro [] [] rfl ?_ | refine And.intro ?_ ?_ | (intro p0; have hyp:=p0; (try simp only [HB,ne_eq,reduceCtorEq] at hyp); (try simp only [p0]); (try clear p0); try (exfalso; omega; done)) | omega
 ·exact (decide_eq_false fun e=>by subst e; omega).symm
 ·refine T.loop (fun k:Nat=>⟨[(0,.vec .cell L),(1,.vec .cell M),(12,.int .i64 L.length),(13,.int .i64 k)],[]⟩) (fun k=>k≤L.length∧∀ j,j < k→L[j]?=M[j]?) (fun k=>L.length - k) 0 ⟨by omega,fun j hj=>by omega⟩ (Cos.intro [] [] rfl (by (simp only [SB,E,seval,rdB,ne_eq,implies_true,List.drop_replicate]); first | done | (repeat' apply And.intro) <;> first | rfl | omega | simp)) (fun k ⟨hk,hall⟩=>?_)
  repeat' first | simp only [SB,E,seval,rdB,ne_eq,implies_true,List.drop_replicate] | refine T.seq ?_ | refine T.stm ?_ | refine T.rg ?_ | refine jac ?_ | refine jad ?_ | refine jae ?_ | refine T.cond ?_ | refine T.skip ?_ | refine T.ret ?_ | refine T.exit ?_ | refine T.block ?_ | refine Cos.intro [] [] rfl ?_ | exact ⟨k+1,⟨by omega,jfP (by omega) (by omega) hyp hall⟩,by omega,(Cos.intro [] [] rfl (by (simp only [SB,E,seval,rdB,ne_eq,implies_true,List.drop_replicate]); first | done | (repeat' apply And.intro) <;> first | rfl | omega | simp))⟩ | refine And.intro ?_ ?_ | (intro p0; have hyp:=p0; (try simp only [HB,ne_eq,reduceCtorEq] at hyp); (try simp only [p0]); (try clear p0); try (exfalso; omega; done)) | omega
  ·exact (decide_eq_false fun e=>by subst e; exact hyp rfl).symm
  ·exact (decide_eq_true (jhi (by omega) (by omega) hall)).symm)
theorem joE:Fresh Tryz.prog E0 116 sp_equal:=Alias.fresh jtT (fun x=>rfl)
noncomputable def sp_rcopy:Spec:=spOf (α:=(List CD)) (fun L=>[.vec .cell L]) fun L=>(L.length≤1000000,.ret (.vec .cell L))
theorem jfh (L:List CD):sp_rcopy [.vec .cell L]=some (L.length≤1000000,.ret (.vec .cell L)):=jar (α:=(List CD)) _ (fun L L' h=>by first | simpa [CP] using h | (simp [CP] at h ⊢; grind)) L
theorem jtU:Fresh Tryz.prog E0 72 sp_rcopy:=Fresh.of fun L hG=>TF.intro (V:=(VV [] GOk.nil 11 0)) jkK rfl rfl (by
 dsimp only at hG ⊢
 repeat' first | simp only [SB,E,seval,rdB,ne_eq,implies_true,List.drop_replicate] | refine T.seq ?_ | refine T.stm ?_ | refine T.rg ?_ | refine jac ?_ | refine jad ?_ | refine jae ?_ | refine T.cond ?_ | refine T.skip ?_ | refine T.ret ?_ | refine T.exit ?_ | refine T.block ?_ | refine Cos.row (t:=.cell) rfl ?_ rfl (Nat.le_refl _) | refine And.intro ?_ ?_ | (intro p0; have hyp:=p0; (try simp only [HB,ne_eq,reduceCtorEq] at hyp); (try simp only [p0]); (try clear p0); try (exfalso; omega; done)) | omega)
noncomputable def sp_clone:Spec:=spOf (α:=(List CD)) (fun L=>[.vec .cell L]) fun L=>(L.length≤1000000,.ret (.vec .cell L))
theorem jai (L:List CD):sp_clone [.vec .cell L]=some (L.length≤1000000,.ret (.vec .cell L)):=jar (α:=(List CD)) _ (fun L L' h=>by first | simpa [CP] using h | (simp [CP] at h ⊢; grind)) L
theorem jgc:Fresh Tryz.prog E0 24 sp_clone:=Fresh.of fun L hG=>TF.intro (V:=(VV [] GOk.nil 8 0)) ja8 rfl rfl (by
 dsimp only at hG ⊢
 repeat' first | simp only [SB,E,seval,rdB,ne_eq,implies_true,List.drop_replicate] | refine T.seq ?_ | refine T.stm ?_ | refine T.rg ?_ | refine jac ?_ | refine jad ?_ | refine jae ?_ | refine T.cond ?_ | refine T.skip ?_ | refine T.ret ?_ | refine T.exit ?_ | refine T.block ?_ | refine Cos.row (t:=.cell) rfl ?_ rfl (Nat.le_refl _) | exact Cos.nilRow (t:=.cell) (by cases L <;> simp_all) | refine And.intro ?_ ?_ | (intro p0; have hyp:=p0; (try simp only [HB,ne_eq,reduceCtorEq] at hyp); (try simp only [p0]); (try clear p0); try (exfalso; omega; done)) | omega)
def cAt (L:List CD) (i:Nat):CD:=L.getD i default
def jil (L:List CD) (i:Nat):Bool:=decide (0 < i) && ((cAt L (i - 1)).wide == 1)
def jgw (L:List CD) (i:Nat):Bool:=mayB (cAt L i) && (jil L i == ((cAt L i).wide == 2)) && (!(jil L i) || penSame (cAt L (i - 1)).pen (cAt L i).pen)
def jcQ (L:List CD):Bool:=decide (1≤L.length) && decide (L.length≤80) && (List.range L.length).all (jgw L) && ((cAt L (L.length - 1)).wide != 1)
def jgR (L:List CD) (i:Nat):Bool:=mayB (cAt L i) && !((cAt L i).wide == 1 && (i == L.length - 1 || (cAt L (i+1)).wide != 2 || !penSame (cAt L (i+1)).pen (cAt L i).pen)) && !((cAt L i).wide == 2 && (i == 0 || (cAt L (i - 1)).wide != 1))
def joF (L:List CD):Bool:=decide (1≤L.length) && decide (L.length≤80) && (List.range L.length).all (jgR L)
theorem jdy (L:List CD) (i:Nat):jgw L i=true↔(mayB (cAt L i)=true∧((0 < i∧(cAt L (i - 1)).wide=1)↔(cAt L i).wide=2)∧(0 < i→(cAt L (i - 1)).wide=1→(cAt L (i - 1)).pen=(cAt L i).pen)):=by
 unfold jgw jil penSame
 simp only [ibeq]
 generalize cAt L (i - 1)=p
 generalize cAt L i=q
 by_cases h0:0 < i <;> by_cases h1:p.wide=1 <;> by_cases h2:q.wide=2 <;> by_cases h3:p.pen=q.pen <;> simp [h0,h1,h2,h3]
theorem jkM (L:List CD) (i:Nat):jgR L i=true↔(mayB (cAt L i)=true∧((cAt L i).wide=1→i ≠ L.length - 1∧(cAt L (i+1)).wide=2∧(cAt L (i+1)).pen=(cAt L i).pen)∧((cAt L i).wide=2→i ≠ 0∧(cAt L (i - 1)).wide=1)):=by
 unfold jgR penSame
 simp only [ibeq,nbeq,bne]
 generalize cAt L (i - 1)=p
 generalize cAt L (i+1)=n
 generalize cAt L i=q
 by_cases h0:i=0 <;> by_cases h4:i=L.length - 1 <;> by_cases h1:q.wide=1 <;> by_cases h2:q.wide=2 <;> by_cases h3:n.pen=q.pen <;> by_cases h5:n.wide=2 <;> by_cases h6:p.wide=1 <;> simp [h0,h1,h2,h3,h4,h5,h6]
theorem juJ (L:List CD):joF L=jcQ L:=by
 rw [Bool.eq_iff_iff]
 unfold joF jcQ
 simp only [Bool.and_eq_true,decide_eq_true_eq,List.all_eq_true,List.mem_range,bne_iff_ne,ne_eq]
 constructor
 ·rintro ⟨⟨h1,h2⟩,h⟩
  have H:=fun i hi=>(jkM L i).1 (h i hi)
  refine ⟨⟨⟨h1,h2⟩,fun i hi=>(jdy L i).2 ⟨(H i hi).1,⟨fun ⟨hp,hw⟩=>?_,fun hw=>?_⟩,fun hp hw=>?_⟩⟩,fun hw=>?_⟩
  ·have:=((H (i - 1) (by omega)).2.1 hw).2.1
   rwa [show i - 1+1=i by omega] at this
  ·have:=(H i hi).2.2 hw
   exact ⟨by omega,this.2⟩
  ·have:=((H (i - 1) (by omega)).2.1 hw).2.2
   rw [show i - 1+1=i by omega] at this
   exact this.symm
  ·exact ((H (L.length - 1) (by omega)).2.1 hw).1 rfl
 ·rintro ⟨⟨⟨h1,h2⟩,h⟩,hl⟩
  have H:=fun i hi=>(jdy L i).1 (h i hi)
  refine ⟨⟨h1,h2⟩,fun i hi=>(jkM L i).2 ⟨(H i hi).1,fun hw=>?_,fun hw=>?_⟩⟩
  ·have hne:i ≠ L.length - 1:=fun e=>hl (e ▸ hw)
   have hn:=H (i+1) (by omega)
   rw [show i+1 - 1=i by omega] at hn
   exact ⟨hne,hn.2.1.1 ⟨by omega,hw⟩,(hn.2.2 (by omega) hw).symm⟩
  ·have:=(H i hi).2.1.2 hw
   exact ⟨by omega,this.2⟩
theorem jrB {L:List CD} {k:Nat} (hk:k < L.length) (h:jgw L k=false):false=jcQ L:=by
 simp only [jcQ,jbQ hk h,Bool.and_false,Bool.false_and]
theorem jvS {L:List CD} {k:Nat} (hk:k < L.length) (h:jgR L k=false):false=jcQ L:=by
 rw [← juJ]
 simp only [joF,jbQ hk h,Bool.and_false]
theorem jeb {f:Nat→Bool} {k:Nat} (h:f k=true) (hall:∀ j,j < k→f j=true):∀ j,j < k+1→f j=true:=fun j hj=>by
 by_cases e:j=k
 ·rw [e]; exact h
 ·exact hall j (by omega)
theorem jcX {f:Nat→Bool} {n k:Nat} (hk:¬ k < n) (hall:∀ j,j < k→f j=true):(List.range n).all f=true:=List.all_eq_true.2 fun i hi=>hall i (by have:=List.mem_range.1 hi; omega)
abbrev CWs (L:List CD):Prop:=∀ c∈L,I32 c.rune
noncomputable def sp_crow:Spec:=spOf (α:=(List CD)) (fun L=>[.vec .cell L]) fun L=>(CWs L∧L.length≤4611686018427387904,.ret (.bool (jcQ L)))
theorem jgd (L:List CD):sp_crow [.vec .cell L]=some (CWs L∧L.length≤4611686018427387904,.ret (.bool (jcQ L))):=jar (α:=(List CD)) _ (fun L L' h=>by first | simpa [CP] using h | (simp [CP] at h ⊢; grind)) L
theorem jvT:Alias Tryz.prog E0 97 sp_crow:=Alias.of fun L hG=>TF.intro (V:=(VV [(124,conF [.any] sp_cmay)] (.cons (jaa jhU) (Fresh.soundF jvP) GOk.nil) 65 0)) jff rfl rfl (by
 dsimp only at hG ⊢
 obtain ⟨hc,hl⟩:=hG
 repeat' first | simp only [SB,E,seval,rdB,ne_eq,implies_true,jeS,List.drop_replicate] | refine T.seq ?_ | refine T.stm ?_ | refine T.rg ?_ | refine jac ?_ | refine jad ?_ | refine jae ?_ | refine T.cond ?_ | refine T.skip ?_ | refine T.ret ?_ | refine T.exit ?_ | refine T.block ?_ | refine Cos.intro [] [] rfl ?_ | refine And.intro ?_ ?_ | (intro p0; have hyp:=p0; (try simp only [HB,ne_eq,reduceCtorEq] at hyp); (try simp only [p0]); (try clear p0); try (exfalso; omega; done)) | omega
 ·simp only [jcQ,decide_eq_false (show ¬ (1≤L.length∧L.length≤80) by omega),← Bool.decide_and]
  rfl
 refine T.loop (fun k:Nat=>⟨[(0,.vec .cell L),(14,.vec .cell L),(15,.int .i64 L.length),(16,.int .i64 k)],[]⟩) (fun k=>k≤L.length∧∀ j,j < k→jgw L j=true) (fun k=>L.length - k) 0 ⟨by omega,fun j hj=>by omega⟩ (Cos.intro [] [] rfl (by (simp only [SB,E,seval,rdB,ne_eq,implies_true,jeS,List.drop_replicate]); first | done | (repeat' apply And.intro) <;> first | rfl | omega | simp)) (fun k ⟨hk,hall⟩=>?_)
 have hck:k < L.length→I32 (L.getD k default).rune:=fun h=>hc _ (jhj h)
 repeat' first | simp only [SB,E,seval,rdB,ne_eq,implies_true,jeS,List.drop_replicate] | refine T.seq ?_ | refine T.stm ?_ | refine T.rg ?_ | refine jac ?_ | refine jad ?_ | refine jae ?_ | refine T.cond ?_ | refine T.skip ?_ | refine T.ret ?_ | refine T.exit ?_ | refine T.block ?_ | refine Cos.intro [] [] rfl ?_ | refine And.intro ?_ ?_ | (intro p0; have hyp:=p0; (try simp only [HB,ne_eq,reduceCtorEq] at hyp); (try simp only [p0]); (try clear p0); try (exfalso; omega; done)) | omega
 ·refine jrB (by omega:k < L.length) ?_
  simp only [jgw,jil,cAt,penSame,ibeq]
  clear hall hc
  grind
 ·refine ⟨k+1,⟨by omega,jeb ?_ hall⟩,by omega,(Cos.intro [] [] rfl (by (simp only [SB,E,seval,rdB,ne_eq,implies_true,jeS,List.drop_replicate]); first | done | (repeat' apply And.intro) <;> first | rfl | omega | simp))⟩
  simp only [jgw,jil,cAt,penSame,ibeq]
  clear hall hc
  grind
 ·refine ⟨k+1,⟨by omega,jeb ?_ hall⟩,by omega,(Cos.intro [] [] rfl (by (simp only [SB,E,seval,rdB,ne_eq,implies_true,jeS,List.drop_replicate]); first | done | (repeat' apply And.intro) <;> first | rfl | omega | simp))⟩
  simp only [jgw,jil,cAt,penSame,ibeq]
  clear hall hc
  grind
 ·refine jrB (by omega:k < L.length) ?_
  simp only [jgw,jil,cAt,penSame,ibeq]
  clear hall hc
  grind
 ·refine jrB (by omega:k < L.length) ?_
  simp only [jgw,jil,cAt,penSame,ibeq]
  clear hall hc
  grind
 ·simp only [jcQ,jcX (n:=L.length) (k:=k) (by omega) hall,cAt,bne,ibeq,Bool.and_true]
  rw [decide_eq_true (show 1≤L.length by omega),decide_eq_true (show L.length≤80 by omega)]
  rfl)
theorem jvU:Fresh Tryz.prog E0 97 sp_crow:=Alias.fresh jvT (fun x=>rfl)
noncomputable def sp_rrow:Spec:=spOf (α:=(List CD)) (fun L=>[.vec .cell L]) fun L=>(CWs L∧L.length≤4611686018427387904,.ret (.bool (jcQ L)))
theorem jge (L:List CD):sp_rrow [.vec .cell L]=some (CWs L∧L.length≤4611686018427387904,.ret (.bool (jcQ L))):=jar (α:=(List CD)) _ (fun L L' h=>by first | simpa [CP] using h | (simp [CP] at h ⊢; grind)) L
theorem jvV : Alias Tryz.prog E0 76 sp_rrow := Alias.of fun L hG => TF.intro (V := (VV [(110, conF [.any] sp_rmay)] (.cons (jaa jmA) (Fresh.soundF jvR) GOk.nil) 79 0)) jik rfl rfl (by
  dsimp only at hG ⊢
  obtain ⟨hc, hl⟩ := hG
  repeat' first | simp only [SB, E, seval, rdB, ne_eq, implies_true, jgb, List.drop_replicate] | refine T.seq ?_ | refine T.stm ?_ | refine T.rg ?_ | refine jac ?_ | refine jad ?_ | refine jae ?_ | refine T.cond ?_ | refine T.skip ?_ | refine T.ret ?_ | refine T.exit ?_ | refine T.block ?_ | refine Cos.intro [] [] rfl ?_ | refine And.intro ?_ ?_ | (intro p0; have hyp := p0; (try simp only [HB, ne_eq, reduceCtorEq] at hyp); (try simp only [p0]); (try clear p0); try (exfalso; omega; done)) | omega
  · simp only [jcQ, decide_eq_false (show ¬ (1 ≤ L.length ∧ L.length ≤ 80) by omega), ← Bool.decide_and]
    rfl
  refine T.loop (fun k : Nat => ⟨[(0, .vec .cell L), (3, .int .i64 k)], []⟩) (fun k => k ≤ L.length ∧ ∀ j, j < k → jgR L j = true) (fun k => L.length - k) 0 ⟨by omega, fun j hj => by omega⟩ (Cos.intro [] [] rfl (by (simp only [SB, E, seval, rdB, ne_eq, implies_true, jgb, List.drop_replicate]); first | done | (repeat' apply And.intro) <;> first | rfl | omega | simp)) (fun k ⟨hk, hall⟩ => ?_)
  have hck : k < L.length → I32 (L.getD k default).rune := fun h => hc _ (jhj h)
  have hk1 : ((k : Int) = (L.length : Int) - 1) = (k = L.length - 1 ∧ 1 ≤ L.length) := propext (by omega)
  have hk0 : ((k : Int) = 0) = (k = 0) := propext (by omega)
  repeat' first | simp only [SB, E, seval, rdB, ne_eq, implies_true, jgb, List.drop_replicate] | refine T.seq ?_ | refine T.stm ?_ | refine T.rg ?_ | refine jac ?_ | refine jad ?_ | refine jae ?_ | refine T.cond ?_ | refine T.skip ?_ | refine T.ret ?_ | refine T.exit ?_ | refine T.block ?_ | refine Cos.intro [] [] rfl ?_ | refine And.intro ?_ ?_ | (intro p0; have hyp := p0; (try simp only [HB, ne_eq, reduceCtorEq] at hyp); (try simp only [p0]); (try clear p0); try (exfalso; omega; done)) | omega
  all_goals first
    | (refine jvS (by omega : k < L.length) ?_
       simp only [jgR, cAt, penSame, ibeq, nbeq, bne]
       clear hall hc
       grind)
    | (refine ⟨k + 1, ⟨by omega, jeb ?_ hall⟩, by omega, (Cos.intro [] [] rfl (by (simp only [SB, E, seval, rdB, ne_eq, implies_true, jgb, List.drop_replicate]); first | done | (repeat' apply And.intro) <;> first | rfl | omega | simp))⟩
       simp only [jgR, cAt, penSame, ibeq, nbeq, bne]
       clear hall hc
       grind)
    | (rw [← juJ]
       simp only [joF, jcX (n := L.length) (k := k) (by omega) hall, Bool.and_true]
       rw [decide_eq_true (show 1 ≤ L.length by omega), decide_eq_true (show L.length ≤ 80 by omega)]
       rfl)
    | trace_state)
theorem jvW:Fresh Tryz.prog E0 76 sp_rrow:=Alias.fresh jvV (fun x=>rfl)
end
end Go.Proofs.YtcfkfgkndncanaaGreatDoor
