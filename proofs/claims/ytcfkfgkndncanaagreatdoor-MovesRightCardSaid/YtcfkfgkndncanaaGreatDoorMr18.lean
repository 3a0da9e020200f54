/- Texts of this claim, merged by a program of this claim: FCell. -/
import Derived.Test.YtcfkfgkndncanaaGreatDoorMr14
import Derived.Test.YtcfkfgkndncanaaGreatDoorMr17
import Derived.Test.YtcfkfgkndncanaaGreatDoorMr6
namespace Go.Proofs.YtcfkfgkndncanaaGreatDoor
set_option linter.unusedVariables false
set_option linter.unusedSimpArgs false
section
open Go.RowKit
set_option maxRecDepth 100000
set_option maxHeartbeats 4000000
theorem Cos.nilRow {h : KH} {t : ETy} {L : List t.T} (e : L = []) : Cos 0 ⟨[(0, .nils)], h⟩ ⟨[(0, .slice 0 0 t.esz L.length L.length)], [.seq t L]⟩ := by
  subst e
  refine Cos.intro [h.length] [] (by simp [jd9, imgs, jbH]) ⟨?_, ?_⟩
  · simp [crsH, jdL]
  · simp [crsF, Fr.get, crs]
def colorB (c : Int) : Bool := decide (c ≤ 256) || (decide (16777216 ≤ c) && decide (c ≤ 33554431))
def penB (p : PD) : Bool := colorB p.fg && colorB p.bg
def mayB (c : CD) : Bool := penB c.pen && ((c.wide == 0 && Utf.width c.rune == 1) || (c.wide == 1 && Utf.width c.rune == 2) || (c.wide == 2 && c.rune == 0))
def jeL (p : PD) : CD := ⟨32, 0, 0, p.bg, 0, 0⟩
def penSame (p q : PD) : Bool := decide (p = q)
theorem ibeq (a b : Int) : (a == b) = decide (a = b) := by by_cases h : a = b <;> simp [h]
theorem nbeq (a b : Nat) : (a == b) = decide (a = b) := by by_cases h : a = b <;> simp [h]
noncomputable def sp_color : Spec := spOf (α := Int) (fun c => [.int .u32 c]) fun c => (True, .ret (.bool (colorB c)))
theorem jcI (c : Int) : sp_color [.int .u32 c] = some (True, .ret (.bool (colorB c))) := jav (α := Int) _ (fun c c' h => by first | simpa [CP] using h | (simp [CP] at h ⊢; grind)) c
theorem jn2 : Alias Tryz.prog E0 127 sp_color := Alias.of fun c hG => TF.intro (V := (VV [] GOk.nil 13 0)) k_cell_ColorMay rfl rfl (by
  dsimp only at hG ⊢
  repeat' first | simp only [SB, E, seval, rdB, ne_eq, implies_true, List.drop_replicate] | refine T.seq ?_ | refine T.stm ?_ | refine T.rg ?_ | refine jac ?_ | refine jad ?_ | refine jae ?_ | refine T.cond ?_ | refine T.skip ?_ | refine T.ret ?_ | refine T.exit ?_ | refine T.block ?_ | refine Cos.intro [] [] rfl ?_ | refine And.intro ?_ ?_ | (intro hyp0; have hyp := hyp0; (try simp only [HB, ne_eq, reduceCtorEq] at hyp); (try simp only [hyp0]); (try clear hyp0); try (exfalso; omega; done)) | omega
  rfl)
theorem jhS : Fresh Tryz.prog E0 127 sp_color := Alias.fresh jn2 (fun x => rfl)
noncomputable def sp_rcolor : Spec := spOf (α := Int) (fun c => [.int .u32 c]) fun c => (True, .ret (.bool (colorB c)))
theorem jiw (c : Int) : sp_rcolor [.int .u32 c] = some (True, .ret (.bool (colorB c))) := jav (α := Int) _ (fun c c' h => by first | simpa [CP] using h | (simp [CP] at h ⊢; grind)) c
theorem jme : Alias Tryz.prog E0 74 sp_rcolor := Alias.of fun c hG => TF.intro (V := (VV [] GOk.nil 13 0)) k_r08_ColorMay rfl rfl (by
  dsimp only at hG ⊢
  repeat' first | simp only [SB, E, seval, rdB, ne_eq, implies_true, List.drop_replicate] | refine T.seq ?_ | refine T.stm ?_ | refine T.rg ?_ | refine jac ?_ | refine jad ?_ | refine jae ?_ | refine T.cond ?_ | refine T.skip ?_ | refine T.ret ?_ | refine T.exit ?_ | refine T.block ?_ | refine Cos.intro [] [] rfl ?_ | refine And.intro ?_ ?_ | (intro hyp0; have hyp := hyp0; (try simp only [HB, ne_eq, reduceCtorEq] at hyp); (try simp only [hyp0]); (try clear hyp0); try (exfalso; omega; done)) | omega
  rw [colorB, show decide (c < 33554432) = decide (c ≤ 33554431) from decide_eq_decide.2 (by omega)])
theorem jmf : Fresh Tryz.prog E0 74 sp_rcolor := Alias.fresh jme (fun x => rfl)
noncomputable def sp_cpen : Spec := spOf (α := PD) (fun p => [penV p]) fun p => (True, .ret (.bool (penB p)))
theorem jkM (p : PD) : sp_cpen [penV p] = some (True, .ret (.bool (penB p))) := jav (α := PD) _ (fun p p' h => by first | simpa [CP] using h | (simp [CP] at h ⊢; grind)) p
theorem jpC : Alias Tryz.prog E0 129 sp_cpen := Alias.of fun p hG => TF.intro (V := (VV [(127, conF [.any] sp_color)] (.cons (chkFn_callable k_cell_ColorMay) (Fresh.soundF jhS) GOk.nil) 11 0)) k_cell_penMay rfl rfl (by
  dsimp only at hG ⊢
  repeat' first | simp only [SB, E, seval, rdB, ne_eq, implies_true, jcI, List.drop_replicate] | refine T.seq ?_ | refine T.stm ?_ | refine T.rg ?_ | refine jac ?_ | refine jad ?_ | refine jae ?_ | refine T.cond ?_ | refine T.skip ?_ | refine T.ret ?_ | refine T.exit ?_ | refine T.block ?_ | refine Cos.intro [] [] rfl ?_ | refine And.intro ?_ ?_ | (intro hyp0; have hyp := hyp0; (try simp only [HB, ne_eq, reduceCtorEq] at hyp); (try simp only [hyp0]); (try clear hyp0); try (exfalso; omega; done)) | omega
  rfl)
theorem jpD : Fresh Tryz.prog E0 129 sp_cpen := Alias.fresh jpC (fun x => rfl)
noncomputable def sp_gpen : Spec := spOf (α := PD) (fun p => [penV p]) fun p => (True, .ret (.bool (penB p)))
theorem jkN (p : PD) : sp_gpen [penV p] = some (True, .ret (.bool (penB p))) := jav (α := PD) _ (fun p p' h => by first | simpa [CP] using h | (simp [CP] at h ⊢; grind)) p
theorem jpE : Alias Tryz.prog E0 130 sp_gpen := Alias.of fun p hG => TF.intro (V := (VV [(127, conF [.any] sp_color)] (.cons (chkFn_callable k_cell_ColorMay) (Fresh.soundF jhS) GOk.nil) 11 0)) k_grid_penMay rfl rfl (by
  dsimp only at hG ⊢
  repeat' first | simp only [SB, E, seval, rdB, ne_eq, implies_true, jcI, List.drop_replicate] | refine T.seq ?_ | refine T.stm ?_ | refine T.rg ?_ | refine jac ?_ | refine jad ?_ | refine jae ?_ | refine T.cond ?_ | refine T.skip ?_ | refine T.ret ?_ | refine T.exit ?_ | refine T.block ?_ | refine Cos.intro [] [] rfl ?_ | refine And.intro ?_ ?_ | (intro hyp0; have hyp := hyp0; (try simp only [HB, ne_eq, reduceCtorEq] at hyp); (try simp only [hyp0]); (try clear hyp0); try (exfalso; omega; done)) | omega
  rfl)
theorem jpF : Fresh Tryz.prog E0 130 sp_gpen := Alias.fresh jpE (fun x => rfl)
noncomputable def sp_rpen : Spec := spOf (α := PD) (fun p => [penV p]) fun p => (True, .ret (.bool (penB p)))
theorem jkO (p : PD) : sp_rpen [penV p] = some (True, .ret (.bool (penB p))) := jav (α := PD) _ (fun p p' h => by first | simpa [CP] using h | (simp [CP] at h ⊢; grind)) p
theorem jpG : Alias Tryz.prog E0 50 sp_rpen := Alias.of fun p hG => TF.intro (V := (VV [(74, conF [.any] sp_rcolor)] (.cons (chkFn_callable k_r08_ColorMay) (Fresh.soundF jmf) GOk.nil) 11 0)) k_r08_PenMay rfl rfl (by
  dsimp only at hG ⊢
  repeat' first | simp only [SB, E, seval, rdB, ne_eq, implies_true, jiw, List.drop_replicate] | refine T.seq ?_ | refine T.stm ?_ | refine T.rg ?_ | refine jac ?_ | refine jad ?_ | refine jae ?_ | refine T.cond ?_ | refine T.skip ?_ | refine T.ret ?_ | refine T.exit ?_ | refine T.block ?_ | refine Cos.intro [] [] rfl ?_ | refine And.intro ?_ ?_ | (intro hyp0; have hyp := hyp0; (try simp only [HB, ne_eq, reduceCtorEq] at hyp); (try simp only [hyp0]); (try clear hyp0); try (exfalso; omega; done)) | omega
  rfl)
theorem jpH : Fresh Tryz.prog E0 50 sp_rpen := Alias.fresh jpG (fun x => rfl)
noncomputable def sp_cblank : Spec := spOf (α := PD) (fun p => [penV p]) fun p => (True, .ret (cellV (jeL p)))
theorem jaJ (p : PD) : sp_cblank [penV p] = some (True, .ret (cellV (jeL p))) := jav (α := PD) _ (fun p p' h => by first | simpa [CP] using h | (simp [CP] at h ⊢; grind)) p
theorem jmg : Alias Tryz.prog E0 126 sp_cblank := Alias.of fun p hG => TF.intro (V := (VV [] GOk.nil 7 0)) k_cell_Blank rfl rfl (by
  dsimp only at hG ⊢
  repeat' first | simp only [SB, E, seval, rdB, ne_eq, implies_true, List.drop_replicate] | refine T.seq ?_ | refine T.stm ?_ | refine T.rg ?_ | refine jac ?_ | refine jad ?_ | refine jae ?_ | refine T.cond ?_ | refine T.skip ?_ | refine T.ret ?_ | refine T.exit ?_ | refine T.block ?_ | refine Cos.intro [] [] rfl ?_ | refine And.intro ?_ ?_ | (intro hyp0; have hyp := hyp0; (try simp only [HB, ne_eq, reduceCtorEq] at hyp); (try simp only [hyp0]); (try clear hyp0); try (exfalso; omega; done)) | omega
  all_goals rfl)
theorem jix : Fresh Tryz.prog E0 126 sp_cblank := Alias.fresh jmg (fun x => rfl)
noncomputable def sp_cmay : Spec := spOf (α := CD) (fun c => [cellV c]) fun c => (I32 c.rune, .ret (.bool (mayB c)))
theorem jdd (c : CD) : sp_cmay [cellV c] = some (I32 c.rune, .ret (.bool (mayB c))) := jav (α := CD) _ (fun c c' h => by first | simpa [CP] using h | (simp [CP] at h ⊢; grind)) c
theorem jpI : Alias Tryz.prog E0 124 sp_cmay := Alias.of fun c hG => TF.intro (V := (VV [(129, conF [.any] sp_cpen), (59, conF [.any] sp_width)] (.cons (chkFn_callable k_cell_penMay) (Fresh.soundF jpD) (.cons (chkFn_callable k_utf_Width) (Fresh.soundF jhR) GOk.nil)) 29 0)) k_cell_May rfl rfl (by
  dsimp only at hG ⊢
  repeat' first | simp only [SB, E, seval, rdB, ne_eq, implies_true, jkM, jaw, List.drop_replicate] | refine T.seq ?_ | refine T.stm ?_ | refine T.rg ?_ | refine jac ?_ | refine jad ?_ | refine jae ?_ | refine T.cond ?_ | refine T.skip ?_ | refine T.ret ?_ | refine T.exit ?_ | refine T.block ?_ | refine Cos.intro [] [] rfl ?_ | refine And.intro ?_ ?_ | (intro hyp0; have hyp := hyp0; (try simp only [HB, ne_eq, reduceCtorEq] at hyp); (try simp only [hyp0]); (try clear hyp0); try (exfalso; omega; done)) | omega
  all_goals simp_all [mayB, ibeq])
theorem jpJ : Fresh Tryz.prog E0 124 sp_cmay := Alias.fresh jpI (fun x => rfl)
noncomputable def sp_rmay : Spec := spOf (α := CD) (fun c => [cellV c]) fun c => (I32 c.rune, .ret (.bool (mayB c)))
theorem jd3 (c : CD) : sp_rmay [cellV c] = some (I32 c.rune, .ret (.bool (mayB c))) := jav (α := CD) _ (fun c c' h => by first | simpa [CP] using h | (simp [CP] at h ⊢; grind)) c
theorem jpK : Alias Tryz.prog E0 110 sp_rmay := Alias.of fun c hG => TF.intro (V := (VV [(50, conF [.any] sp_rpen), (46, conF [.any] sp_r7width)] (.cons (chkFn_callable k_r08_PenMay) (Fresh.soundF jpH) (.cons (chkFn_callable k_r07_Width) (Fresh.soundF jg7) GOk.nil)) 38 0)) k_r08_May rfl rfl (by
  dsimp only at hG ⊢
  repeat' first | simp only [SB, E, seval, rdB, ne_eq, implies_true, jkO, jbF, List.drop_replicate] | refine T.seq ?_ | refine T.stm ?_ | refine T.rg ?_ | refine jac ?_ | refine jad ?_ | refine jae ?_ | refine T.cond ?_ | refine T.skip ?_ | refine T.ret ?_ | refine T.exit ?_ | refine T.block ?_ | refine Cos.intro [] [] rfl ?_ | refine And.intro ?_ ?_ | (intro hyp0; have hyp := hyp0; (try simp only [HB, ne_eq, reduceCtorEq] at hyp); (try simp only [hyp0]); (try clear hyp0); try (exfalso; omega; done)) | omega
  simp only [mayB, ibeq])
theorem jpL : Fresh Tryz.prog E0 110 sp_rmay := Alias.fresh jpK (fun x => rfl)
noncomputable def sp_rcopy : Spec := spOf (α := (List CD)) (fun L => [.vec .cell L]) fun L => (L.length ≤ 1000000, .ret (.vec .cell L))
theorem jdw (L : List CD) : sp_rcopy [.vec .cell L] = some (L.length ≤ 1000000, .ret (.vec .cell L)) := jav (α := (List CD)) _ (fun L L' h => by first | simpa [CP] using h | (simp [CP] at h ⊢; grind)) L
theorem jn3 : Fresh Tryz.prog E0 72 sp_rcopy := Fresh.of fun L hG => TF.intro (V := (VV [] GOk.nil 11 0)) k_r08_Copy rfl rfl (by
  dsimp only at hG ⊢
  repeat' first | simp only [SB, E, seval, rdB, ne_eq, implies_true, List.drop_replicate] | refine T.seq ?_ | refine T.stm ?_ | refine T.rg ?_ | refine jac ?_ | refine jad ?_ | refine jae ?_ | refine T.cond ?_ | refine T.skip ?_ | refine T.ret ?_ | refine T.exit ?_ | refine T.block ?_ | refine Cos.row (t := .cell) rfl ?_ rfl (Nat.le_refl _) | refine And.intro ?_ ?_ | (intro hyp0; have hyp := hyp0; (try simp only [HB, ne_eq, reduceCtorEq] at hyp); (try simp only [hyp0]); (try clear hyp0); try (exfalso; omega; done)) | omega)
noncomputable def sp_clone : Spec := spOf (α := (List CD)) (fun L => [.vec .cell L]) fun L => (L.length ≤ 1000000, .ret (.vec .cell L))
theorem jah (L : List CD) : sp_clone [.vec .cell L] = some (L.length ≤ 1000000, .ret (.vec .cell L)) := jav (α := (List CD)) _ (fun L L' h => by first | simpa [CP] using h | (simp [CP] at h ⊢; grind)) L
theorem jeM : Fresh Tryz.prog E0 24 sp_clone := Fresh.of fun L hG => TF.intro (V := (VV [] GOk.nil 8 0)) k_slices_Clone_Cell rfl rfl (by
  dsimp only at hG ⊢
  repeat' first | simp only [SB, E, seval, rdB, ne_eq, implies_true, List.drop_replicate] | refine T.seq ?_ | refine T.stm ?_ | refine T.rg ?_ | refine jac ?_ | refine jad ?_ | refine jae ?_ | refine T.cond ?_ | refine T.skip ?_ | refine T.ret ?_ | refine T.exit ?_ | refine T.block ?_ | refine Cos.row (t := .cell) rfl ?_ rfl (Nat.le_refl _) | exact Cos.nilRow (t := .cell) (by cases L <;> simp_all) | refine And.intro ?_ ?_ | (intro hyp0; have hyp := hyp0; (try simp only [HB, ne_eq, reduceCtorEq] at hyp); (try simp only [hyp0]); (try clear hyp0); try (exfalso; omega; done)) | omega)
def cAt (L : List CD) (i : Nat) : CD := L.getD i default
def jfp (L : List CD) (i : Nat) : Bool := decide (0 < i) && ((cAt L (i - 1)).wide == 1)
def jed (L : List CD) (i : Nat) : Bool := mayB (cAt L i) && (jfp L i == ((cAt L i).wide == 2)) && (!(jfp L i) || penSame (cAt L (i - 1)).pen (cAt L i).pen)
def jb7 (L : List CD) : Bool := decide (1 ≤ L.length) && decide (L.length ≤ 80) && (List.range L.length).all (jed L) && ((cAt L (L.length - 1)).wide != 1)
def jes (L : List CD) (i : Nat) : Bool := mayB (cAt L i) && !((cAt L i).wide == 1 && (i == L.length - 1 || (cAt L (i + 1)).wide != 2 || !penSame (cAt L (i + 1)).pen (cAt L i).pen)) && !((cAt L i).wide == 2 && (i == 0 || (cAt L (i - 1)).wide != 1))
def jj7 (L : List CD) : Bool := decide (1 ≤ L.length) && decide (L.length ≤ 80) && (List.range L.length).all (jes L)
theorem jde (L : List CD) (i : Nat) : jed L i = true ↔ (mayB (cAt L i) = true ∧ ((0 < i ∧ (cAt L (i - 1)).wide = 1) ↔ (cAt L i).wide = 2) ∧ (0 < i → (cAt L (i - 1)).wide = 1 → (cAt L (i - 1)).pen = (cAt L i).pen)) := by
  unfold jed jfp penSame
  simp only [ibeq]
  generalize cAt L (i - 1) = p
  generalize cAt L i = q
  by_cases h0 : 0 < i <;> by_cases h1 : p.wide = 1 <;> by_cases h2 : q.wide = 2 <;> by_cases h3 : p.pen = q.pen <;> simp [h0, h1, h2, h3]
theorem jha (L : List CD) (i : Nat) : jes L i = true ↔ (mayB (cAt L i) = true ∧ ((cAt L i).wide = 1 → i ≠ L.length - 1 ∧ (cAt L (i + 1)).wide = 2 ∧ (cAt L (i + 1)).pen = (cAt L i).pen) ∧ ((cAt L i).wide = 2 → i ≠ 0 ∧ (cAt L (i - 1)).wide = 1)) := by
  unfold jes penSame
  simp only [ibeq, nbeq, bne]
  generalize cAt L (i - 1) = p
  generalize cAt L (i + 1) = n
  generalize cAt L i = q
  by_cases h0 : i = 0 <;> by_cases h4 : i = L.length - 1 <;> by_cases h1 : q.wide = 1 <;> by_cases h2 : q.wide = 2 <;> by_cases h3 : n.pen = q.pen <;> by_cases h5 : n.wide = 2 <;> by_cases h6 : p.wide = 1 <;> simp [h0, h1, h2, h3, h4, h5, h6]
theorem joL (L : List CD) : jj7 L = jb7 L := by
  rw [Bool.eq_iff_iff]
  unfold jj7 jb7
  simp only [Bool.and_eq_true, decide_eq_true_eq, List.all_eq_true, List.mem_range, bne_iff_ne, ne_eq]
  constructor
  · rintro ⟨⟨h1, h2⟩, h⟩
    have H := fun i hi => (jha L i).1 (h i hi)
    refine ⟨⟨⟨h1, h2⟩, fun i hi => (jde L i).2 ⟨(H i hi).1, ⟨fun ⟨hp, hw⟩ => ?_, fun hw => ?_⟩, fun hp hw => ?_⟩⟩, fun hw => ?_⟩
    · have := ((H (i - 1) (by omega)).2.1 hw).2.1
      rwa [show i - 1 + 1 = i by omega] at this
    · have := (H i hi).2.2 hw
      exact ⟨by omega, this.2⟩
    · have := ((H (i - 1) (by omega)).2.1 hw).2.2
      rw [show i - 1 + 1 = i by omega] at this
      exact this.symm
    · exact ((H (L.length - 1) (by omega)).2.1 hw).1 rfl
  · rintro ⟨⟨⟨h1, h2⟩, h⟩, hl⟩
    have H := fun i hi => (jde L i).1 (h i hi)
    refine ⟨⟨h1, h2⟩, fun i hi => (jha L i).2 ⟨(H i hi).1, fun hw => ?_, fun hw => ?_⟩⟩
    · have hne : i ≠ L.length - 1 := fun e => hl (e ▸ hw)
      have hn := H (i + 1) (by omega)
      rw [show i + 1 - 1 = i by omega] at hn
      exact ⟨hne, hn.2.1.1 ⟨by omega, hw⟩, (hn.2.2 (by omega) hw).symm⟩
    · have := (H i hi).2.1.2 hw
      exact ⟨by omega, this.2⟩
theorem jmh {L : List CD} {k : Nat} (hk : k < L.length) (h : jed L k = false) : false = jb7 L := by
  simp only [jb7, jbj hk h, Bool.and_false, Bool.false_and]
theorem jpM {L : List CD} {k : Nat} (hk : k < L.length) (h : jes L k = false) : false = jb7 L := by
  rw [← joL]
  simp only [jj7, jbj hk h, Bool.and_false]
theorem jcJ {f : Nat → Bool} {k : Nat} (h : f k = true) (hall : ∀ j, j < k → f j = true) : ∀ j, j < k + 1 → f j = true := fun j hj => by
  by_cases e : j = k
  · rw [e]; exact h
  · exact hall j (by omega)
theorem jb1 {f : Nat → Bool} {n k : Nat} (hk : ¬ k < n) (hall : ∀ j, j < k → f j = true) : (List.range n).all f = true := List.all_eq_true.2 fun i hi => hall i (by have := List.mem_range.1 hi; omega)
abbrev CWs (L : List CD) : Prop := ∀ c ∈ L, I32 c.rune
noncomputable def sp_crow : Spec := spOf (α := (List CD)) (fun L => [.vec .cell L]) fun L => (CWs L ∧ L.length ≤ 4611686018427387904, .ret (.bool (jb7 L)))
theorem jd4 (L : List CD) : sp_crow [.vec .cell L] = some (CWs L ∧ L.length ≤ 4611686018427387904, .ret (.bool (jb7 L))) := jav (α := (List CD)) _ (fun L L' h => by first | simpa [CP] using h | (simp [CP] at h ⊢; grind)) L
theorem jpN : Alias Tryz.prog E0 97 sp_crow := Alias.of fun L hG => TF.intro (V := (VV [(124, conF [.any] sp_cmay)] (.cons (chkFn_callable k_cell_May) (Fresh.soundF jpJ) GOk.nil) 65 0)) k_cell_RowMay rfl rfl (by
  dsimp only at hG ⊢
  obtain ⟨hc, hl⟩ := hG
  repeat' first | simp only [SB, E, seval, rdB, ne_eq, implies_true, jdd, List.drop_replicate] | refine T.seq ?_ | refine T.stm ?_ | refine T.rg ?_ | refine jac ?_ | refine jad ?_ | refine jae ?_ | refine T.cond ?_ | refine T.skip ?_ | refine T.ret ?_ | refine T.exit ?_ | refine T.block ?_ | refine Cos.intro [] [] rfl ?_ | refine And.intro ?_ ?_ | (intro hyp0; have hyp := hyp0; (try simp only [HB, ne_eq, reduceCtorEq] at hyp); (try simp only [hyp0]); (try clear hyp0); try (exfalso; omega; done)) | omega
  · simp only [jb7, decide_eq_false (show ¬ (1 ≤ L.length ∧ L.length ≤ 80) by omega), ← Bool.decide_and]
    rfl
  refine T.loop (fun k : Nat => ⟨[(0, .vec .cell L), (14, .vec .cell L), (15, .int .i64 L.length), (16, .int .i64 k)], []⟩) (fun k => k ≤ L.length ∧ ∀ j, j < k → jed L j = true) (fun k => L.length - k) 0 ⟨by omega, fun j hj => by omega⟩ (Cos.intro [] [] rfl (by (simp only [SB, E, seval, rdB, ne_eq, implies_true, jdd, List.drop_replicate]); first | done | (repeat' apply And.intro) <;> first | rfl | omega | simp)) (fun k ⟨hk, hall⟩ => ?_)
  have hck : k < L.length → I32 (L.getD k default).rune := fun h => hc _ (jeG h)
  repeat' first | simp only [SB, E, seval, rdB, ne_eq, implies_true, jdd, List.drop_replicate] | refine T.seq ?_ | refine T.stm ?_ | refine T.rg ?_ | refine jac ?_ | refine jad ?_ | refine jae ?_ | refine T.cond ?_ | refine T.skip ?_ | refine T.ret ?_ | refine T.exit ?_ | refine T.block ?_ | refine Cos.intro [] [] rfl ?_ | refine And.intro ?_ ?_ | (intro hyp0; have hyp := hyp0; (try simp only [HB, ne_eq, reduceCtorEq] at hyp); (try simp only [hyp0]); (try clear hyp0); try (exfalso; omega; done)) | omega
  · refine jmh (by omega : k < L.length) ?_
    simp only [jed, jfp, cAt, penSame, ibeq]
    clear hall hc
    grind
  · refine ⟨k + 1, ⟨by omega, jcJ ?_ hall⟩, by omega, (Cos.intro [] [] rfl (by (simp only [SB, E, seval, rdB, ne_eq, implies_true, jdd, List.drop_replicate]); first | done | (repeat' apply And.intro) <;> first | rfl | omega | simp))⟩
    simp only [jed, jfp, cAt, penSame, ibeq]
    clear hall hc
    grind
  · refine ⟨k + 1, ⟨by omega, jcJ ?_ hall⟩, by omega, (Cos.intro [] [] rfl (by (simp only [SB, E, seval, rdB, ne_eq, implies_true, jdd, List.drop_replicate]); first | done | (repeat' apply And.intro) <;> first | rfl | omega | simp))⟩
    simp only [jed, jfp, cAt, penSame, ibeq]
    clear hall hc
    grind
  · refine jmh (by omega : k < L.length) ?_
    simp only [jed, jfp, cAt, penSame, ibeq]
    clear hall hc
    grind
  · refine jmh (by omega : k < L.length) ?_
    simp only [jed, jfp, cAt, penSame, ibeq]
    clear hall hc
    grind
  · simp only [jb7, jb1 (n := L.length) (k := k) (by omega) hall, cAt, bne, ibeq, Bool.and_true]
    rw [decide_eq_true (show 1 ≤ L.length by omega), decide_eq_true (show L.length ≤ 80 by omega)]
    rfl)
theorem jpO : Fresh Tryz.prog E0 97 sp_crow := Alias.fresh jpN (fun x => rfl)
noncomputable def sp_rrow : Spec := spOf (α := (List CD)) (fun L => [.vec .cell L]) fun L => (CWs L ∧ L.length ≤ 4611686018427387904, .ret (.bool (jb7 L)))
theorem jd5 (L : List CD) : sp_rrow [.vec .cell L] = some (CWs L ∧ L.length ≤ 4611686018427387904, .ret (.bool (jb7 L))) := jav (α := (List CD)) _ (fun L L' h => by first | simpa [CP] using h | (simp [CP] at h ⊢; grind)) L
theorem jpP : Alias Tryz.prog E0 76 sp_rrow := Alias.of fun L hG => TF.intro (V := (VV [(110, conF [.any] sp_rmay)] (.cons (chkFn_callable k_r08_May) (Fresh.soundF jpL) GOk.nil) 79 0)) k_r08_RowMay rfl rfl (by
  dsimp only at hG ⊢
  obtain ⟨hc, hl⟩ := hG
  repeat' first | simp only [SB, E, seval, rdB, ne_eq, implies_true, jd3, List.drop_replicate] | refine T.seq ?_ | refine T.stm ?_ | refine T.rg ?_ | refine jac ?_ | refine jad ?_ | refine jae ?_ | refine T.cond ?_ | refine T.skip ?_ | refine T.ret ?_ | refine T.exit ?_ | refine T.block ?_ | refine Cos.intro [] [] rfl ?_ | refine And.intro ?_ ?_ | (intro hyp0; have hyp := hyp0; (try simp only [HB, ne_eq, reduceCtorEq] at hyp); (try simp only [hyp0]); (try clear hyp0); try (exfalso; omega; done)) | omega
  · simp only [jb7, decide_eq_false (show ¬ (1 ≤ L.length ∧ L.length ≤ 80) by omega), ← Bool.decide_and]
    rfl
  refine T.loop (fun k : Nat => ⟨[(0, .vec .cell L), (3, .int .i64 k)], []⟩) (fun k => k ≤ L.length ∧ ∀ j, j < k → jes L j = true) (fun k => L.length - k) 0 ⟨by omega, fun j hj => by omega⟩ (Cos.intro [] [] rfl (by (simp only [SB, E, seval, rdB, ne_eq, implies_true, jd3, List.drop_replicate]); first | done | (repeat' apply And.intro) <;> first | rfl | omega | simp)) (fun k ⟨hk, hall⟩ => ?_)
  have hck : k < L.length → I32 (L.getD k default).rune := fun h => hc _ (jeG h)
  have hk1 : ((k : Int) = (L.length : Int) - 1) = (k = L.length - 1 ∧ 1 ≤ L.length) := propext (by omega)
  have hk0 : ((k : Int) = 0) = (k = 0) := propext (by omega)
  repeat' first | simp only [SB, E, seval, rdB, ne_eq, implies_true, jd3, List.drop_replicate] | refine T.seq ?_ | refine T.stm ?_ | refine T.rg ?_ | refine jac ?_ | refine jad ?_ | refine jae ?_ | refine T.cond ?_ | refine T.skip ?_ | refine T.ret ?_ | refine T.exit ?_ | refine T.block ?_ | refine Cos.intro [] [] rfl ?_ | refine And.intro ?_ ?_ | (intro hyp0; have hyp := hyp0; (try simp only [HB, ne_eq, reduceCtorEq] at hyp); (try simp only [hyp0]); (try clear hyp0); try (exfalso; omega; done)) | omega
  all_goals first
    | (refine jpM (by omega : k < L.length) ?_
       simp only [jes, cAt, penSame, ibeq, nbeq, bne]
       clear hall hc
       grind)
    | (refine ⟨k + 1, ⟨by omega, jcJ ?_ hall⟩, by omega, (Cos.intro [] [] rfl (by (simp only [SB, E, seval, rdB, ne_eq, implies_true, jd3, List.drop_replicate]); first | done | (repeat' apply And.intro) <;> first | rfl | omega | simp))⟩
       simp only [jes, cAt, penSame, ibeq, nbeq, bne]
       clear hall hc
       grind)
    | (rw [← joL]
       simp only [jj7, jb1 (n := L.length) (k := k) (by omega) hall, Bool.and_true]
       rw [decide_eq_true (show 1 ≤ L.length by omega), decide_eq_true (show L.length ≤ 80 by omega)]
       rfl)
    | trace_state)
theorem jpQ : Fresh Tryz.prog E0 76 sp_rrow := Alias.fresh jpP (fun x => rfl)
end
end Go.Proofs.YtcfkfgkndncanaaGreatDoor
