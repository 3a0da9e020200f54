/- Texts of this claim, merged by a program of this claim: FCell. -/
import Derived.Test.YtnomaidopdgdbaaGreatDoorMm10
import Derived.Test.YtnomaidopdgdbaaGreatDoorMm6
import Derived.Test.YtnomaidopdgdbaaGreatDoorMm7
namespace Go.Proofs.YtnomaidopdgdbaaGreatDoor
set_option linter.unusedVariables false
set_option linter.unusedSimpArgs false
section
open Go.RowKit
set_option maxRecDepth 100000
set_option maxHeartbeats 4000000
def colorB (c : Int) : Bool := decide (c ≤ 256) || (decide (16777216 ≤ c) && decide (c ≤ 33554431))
def penB (p : PD) : Bool := colorB p.fg && colorB p.bg
def mayB (c : CD) : Bool := penB c.pen && ((c.wide == 0 && Utf.width c.rune == 1) || (c.wide == 1 && Utf.width c.rune == 2) || (c.wide == 2 && c.rune == 0))
def penSame (p q : PD) : Bool := decide (p = q)
theorem ibeq (a b : Int) : (a == b) = decide (a = b) := by by_cases h : a = b <;> simp [h]
theorem nbeq (a b : Nat) : (a == b) = decide (a = b) := by by_cases h : a = b <;> simp [h]
noncomputable def sp_color : Spec := spOf (α := Int) (fun c => [.int .u32 c]) fun c => (True, .ret (.bool (colorB c)))
theorem sp_color_at (c : Int) : sp_color [.int .u32 c] = some (True, .ret (.bool (colorB c))) := spOf_at (α := Int) _ (fun c c' h => by first | simpa [CP] using h | (simp [CP] at h ⊢; grind)) c
theorem al_color : Alias Tryz.prog E0 217 sp_color := Alias.of fun c hG => TF.intro (V := (VV [] GOk.nil 13 0)) k_cell_ColorMay rfl rfl (by
  dsimp only at hG ⊢
  repeat' first | simp only [SB, E, seval, rdB, ne_eq, implies_true, List.drop_replicate] | refine T.seq ?_ | refine T.stm ?_ | refine T.rg ?_ | refine wpR_o ?_ | refine wpR_g ?_ | refine wpR_e ?_ | refine T.cond ?_ | refine T.skip ?_ | refine T.ret ?_ | refine T.exit ?_ | refine T.block ?_ | refine Cos.intro [] [] rfl ?_ | refine And.intro ?_ ?_ | (intro hyp0; have hyp := hyp0; (try simp only [HB, ne_eq, reduceCtorEq] at hyp); (try simp only [hyp0]); (try clear hyp0); try (exfalso; omega; done)) | omega
  rfl)
theorem fr_color : Fresh Tryz.prog E0 217 sp_color := Alias.fresh al_color (fun x => rfl)
noncomputable def sp_rcolor : Spec := spOf (α := Int) (fun c => [.int .u32 c]) fun c => (True, .ret (.bool (colorB c)))
theorem sp_rcolor_at (c : Int) : sp_rcolor [.int .u32 c] = some (True, .ret (.bool (colorB c))) := spOf_at (α := Int) _ (fun c c' h => by first | simpa [CP] using h | (simp [CP] at h ⊢; grind)) c
theorem al_rcolor : Alias Tryz.prog E0 200 sp_rcolor := Alias.of fun c hG => TF.intro (V := (VV [] GOk.nil 13 0)) k_r08_ColorMay rfl rfl (by
  dsimp only at hG ⊢
  repeat' first | simp only [SB, E, seval, rdB, ne_eq, implies_true, List.drop_replicate] | refine T.seq ?_ | refine T.stm ?_ | refine T.rg ?_ | refine wpR_o ?_ | refine wpR_g ?_ | refine wpR_e ?_ | refine T.cond ?_ | refine T.skip ?_ | refine T.ret ?_ | refine T.exit ?_ | refine T.block ?_ | refine Cos.intro [] [] rfl ?_ | refine And.intro ?_ ?_ | (intro hyp0; have hyp := hyp0; (try simp only [HB, ne_eq, reduceCtorEq] at hyp); (try simp only [hyp0]); (try clear hyp0); try (exfalso; omega; done)) | omega
  rw [colorB, show decide (c < 33554432) = decide (c ≤ 33554431) from decide_eq_decide.2 (by omega)])
theorem fr_rcolor : Fresh Tryz.prog E0 200 sp_rcolor := Alias.fresh al_rcolor (fun x => rfl)
noncomputable def sp_cpen : Spec := spOf (α := PD) (fun p => [penV p]) fun p => (True, .ret (.bool (penB p)))
theorem sp_cpen_at (p : PD) : sp_cpen [penV p] = some (True, .ret (.bool (penB p))) := spOf_at (α := PD) _ (fun p p' h => by first | simpa [CP] using h | (simp [CP] at h ⊢; grind)) p
theorem al_cpen : Alias Tryz.prog E0 205 sp_cpen := Alias.of fun p hG => TF.intro (V := (VV [(217, conF [.any] sp_color)] (.cons (chkFn_callable k_cell_ColorMay) (Fresh.soundF fr_color) GOk.nil) 11 0)) k_cell_penMay rfl rfl (by
  dsimp only at hG ⊢
  repeat' first | simp only [SB, E, seval, rdB, ne_eq, implies_true, sp_color_at, List.drop_replicate] | refine T.seq ?_ | refine T.stm ?_ | refine T.rg ?_ | refine wpR_o ?_ | refine wpR_g ?_ | refine wpR_e ?_ | refine T.cond ?_ | refine T.skip ?_ | refine T.ret ?_ | refine T.exit ?_ | refine T.block ?_ | refine Cos.intro [] [] rfl ?_ | refine And.intro ?_ ?_ | (intro hyp0; have hyp := hyp0; (try simp only [HB, ne_eq, reduceCtorEq] at hyp); (try simp only [hyp0]); (try clear hyp0); try (exfalso; omega; done)) | omega
  rfl)
theorem fr_cpen : Fresh Tryz.prog E0 205 sp_cpen := Alias.fresh al_cpen (fun x => rfl)
noncomputable def sp_rpen : Spec := spOf (α := PD) (fun p => [penV p]) fun p => (True, .ret (.bool (penB p)))
theorem sp_rpen_at (p : PD) : sp_rpen [penV p] = some (True, .ret (.bool (penB p))) := spOf_at (α := PD) _ (fun p p' h => by first | simpa [CP] using h | (simp [CP] at h ⊢; grind)) p
theorem al_rpen : Alias Tryz.prog E0 156 sp_rpen := Alias.of fun p hG => TF.intro (V := (VV [(200, conF [.any] sp_rcolor)] (.cons (chkFn_callable k_r08_ColorMay) (Fresh.soundF fr_rcolor) GOk.nil) 11 0)) k_r08_PenMay rfl rfl (by
  dsimp only at hG ⊢
  repeat' first | simp only [SB, E, seval, rdB, ne_eq, implies_true, sp_rcolor_at, List.drop_replicate] | refine T.seq ?_ | refine T.stm ?_ | refine T.rg ?_ | refine wpR_o ?_ | refine wpR_g ?_ | refine wpR_e ?_ | refine T.cond ?_ | refine T.skip ?_ | refine T.ret ?_ | refine T.exit ?_ | refine T.block ?_ | refine Cos.intro [] [] rfl ?_ | refine And.intro ?_ ?_ | (intro hyp0; have hyp := hyp0; (try simp only [HB, ne_eq, reduceCtorEq] at hyp); (try simp only [hyp0]); (try clear hyp0); try (exfalso; omega; done)) | omega
  rfl)
theorem fr_rpen : Fresh Tryz.prog E0 156 sp_rpen := Alias.fresh al_rpen (fun x => rfl)
noncomputable def sp_cmay : Spec := spOf (α := CD) (fun c => [cellV c]) fun c => (I32 c.rune, .ret (.bool (mayB c)))
theorem sp_cmay_at (c : CD) : sp_cmay [cellV c] = some (I32 c.rune, .ret (.bool (mayB c))) := spOf_at (α := CD) _ (fun c c' h => by first | simpa [CP] using h | (simp [CP] at h ⊢; grind)) c
theorem al_cmay : Alias Tryz.prog E0 167 sp_cmay := Alias.of fun c hG => TF.intro (V := (VV [(205, conF [.any] sp_cpen), (54, conF [.any] sp_width)] (.cons (chkFn_callable k_cell_penMay) (Fresh.soundF fr_cpen) (.cons (chkFn_callable k_utf_Width) (Fresh.soundF fr_width) GOk.nil)) 29 0)) k_cell_May rfl rfl (by
  dsimp only at hG ⊢
  repeat' first | simp only [SB, E, seval, rdB, ne_eq, implies_true, sp_cpen_at, sp_width_at, List.drop_replicate] | refine T.seq ?_ | refine T.stm ?_ | refine T.rg ?_ | refine wpR_o ?_ | refine wpR_g ?_ | refine wpR_e ?_ | refine T.cond ?_ | refine T.skip ?_ | refine T.ret ?_ | refine T.exit ?_ | refine T.block ?_ | refine Cos.intro [] [] rfl ?_ | refine And.intro ?_ ?_ | (intro hyp0; have hyp := hyp0; (try simp only [HB, ne_eq, reduceCtorEq] at hyp); (try simp only [hyp0]); (try clear hyp0); try (exfalso; omega; done)) | omega
  all_goals simp_all [mayB, ibeq])
theorem fr_cmay : Fresh Tryz.prog E0 167 sp_cmay := Alias.fresh al_cmay (fun x => rfl)
noncomputable def sp_rmay : Spec := spOf (α := CD) (fun c => [cellV c]) fun c => (I32 c.rune, .ret (.bool (mayB c)))
theorem sp_rmay_at (c : CD) : sp_rmay [cellV c] = some (I32 c.rune, .ret (.bool (mayB c))) := spOf_at (α := CD) _ (fun c c' h => by first | simpa [CP] using h | (simp [CP] at h ⊢; grind)) c
theorem al_rmay : Alias Tryz.prog E0 168 sp_rmay := Alias.of fun c hG => TF.intro (V := (VV [(156, conF [.any] sp_rpen), (22, conF [.any] sp_r7width)] (.cons (chkFn_callable k_r08_PenMay) (Fresh.soundF fr_rpen) (.cons (chkFn_callable k_r07_Width) (Fresh.soundF fr_r7width) GOk.nil)) 38 0)) k_r08_May rfl rfl (by
  dsimp only at hG ⊢
  repeat' first | simp only [SB, E, seval, rdB, ne_eq, implies_true, sp_rpen_at, sp_r7width_at, List.drop_replicate] | refine T.seq ?_ | refine T.stm ?_ | refine T.rg ?_ | refine wpR_o ?_ | refine wpR_g ?_ | refine wpR_e ?_ | refine T.cond ?_ | refine T.skip ?_ | refine T.ret ?_ | refine T.exit ?_ | refine T.block ?_ | refine Cos.intro [] [] rfl ?_ | refine And.intro ?_ ?_ | (intro hyp0; have hyp := hyp0; (try simp only [HB, ne_eq, reduceCtorEq] at hyp); (try simp only [hyp0]); (try clear hyp0); try (exfalso; omega; done)) | omega
  simp only [mayB, ibeq])
theorem fr_rmay : Fresh Tryz.prog E0 168 sp_rmay := Alias.fresh al_rmay (fun x => rfl)
noncomputable def sp_rsame : Spec := spOf (α := (List CD) × (List CD)) (fun ⟨L, M⟩ => [.vec .cell L, .vec .cell M]) fun ⟨L, M⟩ => (L.length ≤ 4611686018427387904 ∧ M.length ≤ 4611686018427387904, .ret (.bool (decide (L = M))))
theorem sp_rsame_at (L : List CD) (M : List CD) : sp_rsame [.vec .cell L, .vec .cell M] = some (L.length ≤ 4611686018427387904 ∧ M.length ≤ 4611686018427387904, .ret (.bool (decide (L = M)))) := spOf_at (α := (List CD) × (List CD)) _ (fun ⟨L, M⟩ ⟨L', M'⟩ h => by first | simpa [CP] using h | (simp [CP] at h ⊢; grind)) (L, M)
theorem al_rsame : Alias Tryz.prog E0 23 sp_rsame := Alias.of fun ⟨L, M⟩ hG => TF.intro (V := (VV [] GOk.nil 26 0)) k_r08_Same rfl rfl (by
  dsimp only at hG ⊢
  repeat' first | simp only [SB, E, seval, rdB, ne_eq, implies_true, List.drop_replicate] | refine T.seq ?_ | refine T.stm ?_ | refine T.rg ?_ | refine wpR_o ?_ | refine wpR_g ?_ | refine wpR_e ?_ | refine T.cond ?_ | refine T.skip ?_ | refine T.ret ?_ | refine T.exit ?_ | refine T.block ?_ | refine Cos.intro [] [] rfl ?_ | refine And.intro ?_ ?_ | (intro hyp0; have hyp := hyp0; (try simp only [HB, ne_eq, reduceCtorEq] at hyp); (try simp only [hyp0]); (try clear hyp0); try (exfalso; omega; done)) | omega
  · exact (decide_eq_false fun e => by subst e; omega).symm
  · refine T.loop (fun k : Nat => ⟨[(0, .vec .cell L), (1, .vec .cell M), (12, .int .i64 L.length), (13, .int .i64 k)], []⟩) (fun k => k ≤ L.length ∧ ∀ j, j < k → L[j]? = M[j]?) (fun k => L.length - k) 0 ⟨by omega, fun j hj => by omega⟩ (Cos.intro [] [] rfl (by (simp only [SB, E, seval, rdB, ne_eq, implies_true, List.drop_replicate]); first | done | (repeat' apply And.intro) <;> first | rfl | omega | simp)) (fun k ⟨hk, hall⟩ => ?_)
    repeat' first | simp only [SB, E, seval, rdB, ne_eq, implies_true, List.drop_replicate] | refine T.seq ?_ | refine T.stm ?_ | refine T.rg ?_ | refine wpR_o ?_ | refine wpR_g ?_ | refine wpR_e ?_ | refine T.cond ?_ | refine T.skip ?_ | refine T.ret ?_ | refine T.exit ?_ | refine T.block ?_ | refine Cos.intro [] [] rfl ?_ | exact ⟨k + 1, ⟨by omega, same_step (by omega) (by omega) hyp hall⟩, by omega, (Cos.intro [] [] rfl (by (simp only [SB, E, seval, rdB, ne_eq, implies_true, List.drop_replicate]); first | done | (repeat' apply And.intro) <;> first | rfl | omega | simp))⟩ | refine And.intro ?_ ?_ | (intro hyp0; have hyp := hyp0; (try simp only [HB, ne_eq, reduceCtorEq] at hyp); (try simp only [hyp0]); (try clear hyp0); try (exfalso; omega; done)) | omega
    · exact (decide_eq_false fun e => by subst e; exact hyp rfl).symm
    · exact (decide_eq_true (same_end (by omega) (by omega) hall)).symm)
theorem fr_rsame : Fresh Tryz.prog E0 23 sp_rsame := Alias.fresh al_rsame (fun x => rfl)
noncomputable def sp_rcopy : Spec := spOf (α := (List CD)) (fun L => [.vec .cell L]) fun L => (L.length ≤ 1000000, .ret (.vec .cell L))
theorem sp_rcopy_at (L : List CD) : sp_rcopy [.vec .cell L] = some (L.length ≤ 1000000, .ret (.vec .cell L)) := spOf_at (α := (List CD)) _ (fun L L' h => by first | simpa [CP] using h | (simp [CP] at h ⊢; grind)) L
theorem fr_rcopy : Fresh Tryz.prog E0 110 sp_rcopy := Fresh.of fun L hG => TF.intro (V := (VV [] GOk.nil 11 0)) k_r08_Copy rfl rfl (by
  dsimp only at hG ⊢
  repeat' first | simp only [SB, E, seval, rdB, ne_eq, implies_true, List.drop_replicate] | refine T.seq ?_ | refine T.stm ?_ | refine T.rg ?_ | refine wpR_o ?_ | refine wpR_g ?_ | refine wpR_e ?_ | refine T.cond ?_ | refine T.skip ?_ | refine T.ret ?_ | refine T.exit ?_ | refine T.block ?_ | refine Cos.row (t := .cell) rfl ?_ rfl (Nat.le_refl _) | refine And.intro ?_ ?_ | (intro hyp0; have hyp := hyp0; (try simp only [HB, ne_eq, reduceCtorEq] at hyp); (try simp only [hyp0]); (try clear hyp0); try (exfalso; omega; done)) | omega)
def cAt (L : List CD) (i : Nat) : CD := L.getD i default
def leftAt (L : List CD) (i : Nat) : Bool := decide (0 < i) && ((cAt L (i - 1)).wide == 1)
def rowAt_ (L : List CD) (i : Nat) : Bool := mayB (cAt L i) && (leftAt L i == ((cAt L i).wide == 2)) && (!(leftAt L i) || penSame (cAt L (i - 1)).pen (cAt L i).pen)
def rowB_ (L : List CD) : Bool := decide (1 ≤ L.length) && decide (L.length ≤ 80) && (List.range L.length).all (rowAt_ L) && ((cAt L (L.length - 1)).wide != 1)
def rrowAt_ (L : List CD) (i : Nat) : Bool := mayB (cAt L i) && !((cAt L i).wide == 1 && (i == L.length - 1 || (cAt L (i + 1)).wide != 2 || !penSame (cAt L (i + 1)).pen (cAt L i).pen)) && !((cAt L i).wide == 2 && (i == 0 || (cAt L (i - 1)).wide != 1))
def rrowB_ (L : List CD) : Bool := decide (1 ≤ L.length) && decide (L.length ≤ 80) && (List.range L.length).all (rrowAt_ L)
theorem rowAt_iff (L : List CD) (i : Nat) : rowAt_ L i = true ↔ (mayB (cAt L i) = true ∧ ((0 < i ∧ (cAt L (i - 1)).wide = 1) ↔ (cAt L i).wide = 2) ∧ (0 < i → (cAt L (i - 1)).wide = 1 → (cAt L (i - 1)).pen = (cAt L i).pen)) := by
  unfold rowAt_ leftAt penSame
  simp only [ibeq]
  generalize cAt L (i - 1) = p
  generalize cAt L i = q
  by_cases h0 : 0 < i <;> by_cases h1 : p.wide = 1 <;> by_cases h2 : q.wide = 2 <;> by_cases h3 : p.pen = q.pen <;> simp [h0, h1, h2, h3]
theorem rrowAt_iff (L : List CD) (i : Nat) : rrowAt_ L i = true ↔ (mayB (cAt L i) = true ∧ ((cAt L i).wide = 1 → i ≠ L.length - 1 ∧ (cAt L (i + 1)).wide = 2 ∧ (cAt L (i + 1)).pen = (cAt L i).pen) ∧ ((cAt L i).wide = 2 → i ≠ 0 ∧ (cAt L (i - 1)).wide = 1)) := by
  unfold rrowAt_ penSame
  simp only [ibeq, nbeq, bne]
  generalize cAt L (i - 1) = p
  generalize cAt L (i + 1) = n
  generalize cAt L i = q
  by_cases h0 : i = 0 <;> by_cases h4 : i = L.length - 1 <;> by_cases h1 : q.wide = 1 <;> by_cases h2 : q.wide = 2 <;> by_cases h3 : n.pen = q.pen <;> by_cases h5 : n.wide = 2 <;> by_cases h6 : p.wide = 1 <;> simp [h0, h1, h2, h3, h4, h5, h6]
theorem row_eq (L : List CD) : rrowB_ L = rowB_ L := by
  rw [Bool.eq_iff_iff]
  unfold rrowB_ rowB_
  simp only [Bool.and_eq_true, decide_eq_true_eq, List.all_eq_true, List.mem_range, bne_iff_ne, ne_eq]
  constructor
  · rintro ⟨⟨h1, h2⟩, h⟩
    have H := fun i hi => (rrowAt_iff L i).1 (h i hi)
    refine ⟨⟨⟨h1, h2⟩, fun i hi => (rowAt_iff L i).2 ⟨(H i hi).1, ⟨fun ⟨hp, hw⟩ => ?_, fun hw => ?_⟩, fun hp hw => ?_⟩⟩, fun hw => ?_⟩
    · have := ((H (i - 1) (by omega)).2.1 hw).2.1
      rwa [show i - 1 + 1 = i by omega] at this
    · have := (H i hi).2.2 hw
      exact ⟨by omega, this.2⟩
    · have := ((H (i - 1) (by omega)).2.1 hw).2.2
      rw [show i - 1 + 1 = i by omega] at this
      exact this.symm
    · exact ((H (L.length - 1) (by omega)).2.1 hw).1 rfl
  · rintro ⟨⟨⟨h1, h2⟩, h⟩, hl⟩
    have H := fun i hi => (rowAt_iff L i).1 (h i hi)
    refine ⟨⟨h1, h2⟩, fun i hi => (rrowAt_iff L i).2 ⟨(H i hi).1, fun hw => ?_, fun hw => ?_⟩⟩
    · have hne : i ≠ L.length - 1 := fun e => hl (e ▸ hw)
      have hn := H (i + 1) (by omega)
      rw [show i + 1 - 1 = i by omega] at hn
      exact ⟨hne, hn.2.1.1 ⟨by omega, hw⟩, (hn.2.2 (by omega) hw).symm⟩
    · have := (H i hi).2.1.2 hw
      exact ⟨by omega, this.2⟩
theorem row_no {L : List CD} {k : Nat} (hk : k < L.length) (h : rowAt_ L k = false) : false = rowB_ L := by
  simp only [rowB_, range_false hk h, Bool.and_false, Bool.false_and]
theorem rrow_no {L : List CD} {k : Nat} (hk : k < L.length) (h : rrowAt_ L k = false) : false = rowB_ L := by
  rw [← row_eq]
  simp only [rrowB_, range_false hk h, Bool.and_false]
theorem row_yes {f : Nat → Bool} {k : Nat} (h : f k = true) (hall : ∀ j, j < k → f j = true) : ∀ j, j < k + 1 → f j = true := fun j hj => by
  by_cases e : j = k
  · rw [e]; exact h
  · exact hall j (by omega)
theorem range_yes {f : Nat → Bool} {n k : Nat} (hk : ¬ k < n) (hall : ∀ j, j < k → f j = true) : (List.range n).all f = true := List.all_eq_true.2 fun i hi => hall i (by have := List.mem_range.1 hi; omega)
abbrev CWs (L : List CD) : Prop := ∀ c ∈ L, I32 c.rune
noncomputable def sp_crow : Spec := spOf (α := (List CD)) (fun L => [.vec .cell L]) fun L => (CWs L ∧ L.length ≤ 4611686018427387904, .ret (.bool (rowB_ L)))
theorem sp_crow_at (L : List CD) : sp_crow [.vec .cell L] = some (CWs L ∧ L.length ≤ 4611686018427387904, .ret (.bool (rowB_ L))) := spOf_at (α := (List CD)) _ (fun L L' h => by first | simpa [CP] using h | (simp [CP] at h ⊢; grind)) L
theorem al_crow : Alias Tryz.prog E0 107 sp_crow := Alias.of fun L hG => TF.intro (V := (VV [(167, conF [.any] sp_cmay)] (.cons (chkFn_callable k_cell_May) (Fresh.soundF fr_cmay) GOk.nil) 65 0)) k_cell_RowMay rfl rfl (by
  dsimp only at hG ⊢
  obtain ⟨hc, hl⟩ := hG
  repeat' first | simp only [SB, E, seval, rdB, ne_eq, implies_true, sp_cmay_at, List.drop_replicate] | refine T.seq ?_ | refine T.stm ?_ | refine T.rg ?_ | refine wpR_o ?_ | refine wpR_g ?_ | refine wpR_e ?_ | refine T.cond ?_ | refine T.skip ?_ | refine T.ret ?_ | refine T.exit ?_ | refine T.block ?_ | refine Cos.intro [] [] rfl ?_ | refine And.intro ?_ ?_ | (intro hyp0; have hyp := hyp0; (try simp only [HB, ne_eq, reduceCtorEq] at hyp); (try simp only [hyp0]); (try clear hyp0); try (exfalso; omega; done)) | omega
  · simp only [rowB_, decide_eq_false (show ¬ (1 ≤ L.length ∧ L.length ≤ 80) by omega), ← Bool.decide_and]
    rfl
  refine T.loop (fun k : Nat => ⟨[(0, .vec .cell L), (14, .vec .cell L), (15, .int .i64 L.length), (16, .int .i64 k)], []⟩) (fun k => k ≤ L.length ∧ ∀ j, j < k → rowAt_ L j = true) (fun k => L.length - k) 0 ⟨by omega, fun j hj => by omega⟩ (Cos.intro [] [] rfl (by (simp only [SB, E, seval, rdB, ne_eq, implies_true, sp_cmay_at, List.drop_replicate]); first | done | (repeat' apply And.intro) <;> first | rfl | omega | simp)) (fun k ⟨hk, hall⟩ => ?_)
  have hck : k < L.length → I32 (L.getD k default).rune := fun h => hc _ (mem_getD h)
  repeat' first | simp only [SB, E, seval, rdB, ne_eq, implies_true, sp_cmay_at, List.drop_replicate] | refine T.seq ?_ | refine T.stm ?_ | refine T.rg ?_ | refine wpR_o ?_ | refine wpR_g ?_ | refine wpR_e ?_ | refine T.cond ?_ | refine T.skip ?_ | refine T.ret ?_ | refine T.exit ?_ | refine T.block ?_ | refine Cos.intro [] [] rfl ?_ | refine And.intro ?_ ?_ | (intro hyp0; have hyp := hyp0; (try simp only [HB, ne_eq, reduceCtorEq] at hyp); (try simp only [hyp0]); (try clear hyp0); try (exfalso; omega; done)) | omega
  · refine row_no (by omega : k < L.length) ?_
    simp only [rowAt_, leftAt, cAt, penSame, ibeq]
    clear hall hc
    grind
  · refine ⟨k + 1, ⟨by omega, row_yes ?_ hall⟩, by omega, (Cos.intro [] [] rfl (by (simp only [SB, E, seval, rdB, ne_eq, implies_true, sp_cmay_at, List.drop_replicate]); first | done | (repeat' apply And.intro) <;> first | rfl | omega | simp))⟩
    simp only [rowAt_, leftAt, cAt, penSame, ibeq]
    clear hall hc
    grind
  · refine ⟨k + 1, ⟨by omega, row_yes ?_ hall⟩, by omega, (Cos.intro [] [] rfl (by (simp only [SB, E, seval, rdB, ne_eq, implies_true, sp_cmay_at, List.drop_replicate]); first | done | (repeat' apply And.intro) <;> first | rfl | omega | simp))⟩
    simp only [rowAt_, leftAt, cAt, penSame, ibeq]
    clear hall hc
    grind
  · refine row_no (by omega : k < L.length) ?_
    simp only [rowAt_, leftAt, cAt, penSame, ibeq]
    clear hall hc
    grind
  · refine row_no (by omega : k < L.length) ?_
    simp only [rowAt_, leftAt, cAt, penSame, ibeq]
    clear hall hc
    grind
  · simp only [rowB_, range_yes (n := L.length) (k := k) (by omega) hall, cAt, bne, ibeq, Bool.and_true]
    rw [decide_eq_true (show 1 ≤ L.length by omega), decide_eq_true (show L.length ≤ 80 by omega)]
    rfl)
theorem fr_crow : Fresh Tryz.prog E0 107 sp_crow := Alias.fresh al_crow (fun x => rfl)
noncomputable def sp_rrow : Spec := spOf (α := (List CD)) (fun L => [.vec .cell L]) fun L => (CWs L ∧ L.length ≤ 4611686018427387904, .ret (.bool (rowB_ L)))
theorem sp_rrow_at (L : List CD) : sp_rrow [.vec .cell L] = some (CWs L ∧ L.length ≤ 4611686018427387904, .ret (.bool (rowB_ L))) := spOf_at (α := (List CD)) _ (fun L L' h => by first | simpa [CP] using h | (simp [CP] at h ⊢; grind)) L
theorem al_rrow : Alias Tryz.prog E0 111 sp_rrow := Alias.of fun L hG => TF.intro (V := (VV [(168, conF [.any] sp_rmay)] (.cons (chkFn_callable k_r08_May) (Fresh.soundF fr_rmay) GOk.nil) 79 0)) k_r08_RowMay rfl rfl (by
  dsimp only at hG ⊢
  obtain ⟨hc, hl⟩ := hG
  repeat' first | simp only [SB, E, seval, rdB, ne_eq, implies_true, sp_rmay_at, List.drop_replicate] | refine T.seq ?_ | refine T.stm ?_ | refine T.rg ?_ | refine wpR_o ?_ | refine wpR_g ?_ | refine wpR_e ?_ | refine T.cond ?_ | refine T.skip ?_ | refine T.ret ?_ | refine T.exit ?_ | refine T.block ?_ | refine Cos.intro [] [] rfl ?_ | refine And.intro ?_ ?_ | (intro hyp0; have hyp := hyp0; (try simp only [HB, ne_eq, reduceCtorEq] at hyp); (try simp only [hyp0]); (try clear hyp0); try (exfalso; omega; done)) | omega
  · simp only [rowB_, decide_eq_false (show ¬ (1 ≤ L.length ∧ L.length ≤ 80) by omega), ← Bool.decide_and]
    rfl
  refine T.loop (fun k : Nat => ⟨[(0, .vec .cell L), (3, .int .i64 k)], []⟩) (fun k => k ≤ L.length ∧ ∀ j, j < k → rrowAt_ L j = true) (fun k => L.length - k) 0 ⟨by omega, fun j hj => by omega⟩ (Cos.intro [] [] rfl (by (simp only [SB, E, seval, rdB, ne_eq, implies_true, sp_rmay_at, List.drop_replicate]); first | done | (repeat' apply And.intro) <;> first | rfl | omega | simp)) (fun k ⟨hk, hall⟩ => ?_)
  have hck : k < L.length → I32 (L.getD k default).rune := fun h => hc _ (mem_getD h)
  have hk1 : ((k : Int) = (L.length : Int) - 1) = (k = L.length - 1 ∧ 1 ≤ L.length) := propext (by omega)
  have hk0 : ((k : Int) = 0) = (k = 0) := propext (by omega)
  repeat' first | simp only [SB, E, seval, rdB, ne_eq, implies_true, sp_rmay_at, List.drop_replicate] | refine T.seq ?_ | refine T.stm ?_ | refine T.rg ?_ | refine wpR_o ?_ | refine wpR_g ?_ | refine wpR_e ?_ | refine T.cond ?_ | refine T.skip ?_ | refine T.ret ?_ | refine T.exit ?_ | refine T.block ?_ | refine Cos.intro [] [] rfl ?_ | refine And.intro ?_ ?_ | (intro hyp0; have hyp := hyp0; (try simp only [HB, ne_eq, reduceCtorEq] at hyp); (try simp only [hyp0]); (try clear hyp0); try (exfalso; omega; done)) | omega
  all_goals first
    | (refine rrow_no (by omega : k < L.length) ?_
       simp only [rrowAt_, cAt, penSame, ibeq, nbeq, bne]
       clear hall hc
       grind)
    | (refine ⟨k + 1, ⟨by omega, row_yes ?_ hall⟩, by omega, (Cos.intro [] [] rfl (by (simp only [SB, E, seval, rdB, ne_eq, implies_true, sp_rmay_at, List.drop_replicate]); first | done | (repeat' apply And.intro) <;> first | rfl | omega | simp))⟩
       simp only [rrowAt_, cAt, penSame, ibeq, nbeq, bne]
       clear hall hc
       grind)
    | (rw [← row_eq]
       simp only [rrowB_, range_yes (n := L.length) (k := k) (by omega) hall, Bool.and_true]
       rw [decide_eq_true (show 1 ≤ L.length by omega), decide_eq_true (show L.length ≤ 80 by omega)]
       rfl)
    | trace_state)
theorem fr_rrow : Fresh Tryz.prog E0 111 sp_rrow := Alias.fresh al_rrow (fun x => rfl)
end
end Go.Proofs.YtnomaidopdgdbaaGreatDoor
