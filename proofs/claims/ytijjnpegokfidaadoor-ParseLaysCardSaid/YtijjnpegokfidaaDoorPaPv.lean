/- A parser in memory; osc and plain walked. No statement of the seat stands here. -/
import Derived.Test.YtijjnpegokfidaaDoorPaMem
namespace Go.Proofs.YtijjnpegokfidaaDoor
open Go.RowKit
open Pa
open Utf (DS)
set_option linter.unusedVariables false
set_option linter.unusedSimpArgs false

/-- A parser in memory: its struct at gp, its decoder at gd, its numbers and its text from B on. -/
structure Pv (w : World) (B gp gd : Nat) (s : PS) (vp vt : Value) : Prop where
  blk : Blk w gp 51 #[.pointer (some ⟨gd, 0, Option.none⟩), .int .i64 s.st, .bool s.begun, .int .u8 s.mark, .bool s.middle, vp, vt, .bool s.long]
  dec : Dec w gd s.d
  par : OwnI w B 3 .i64 vp s.params
  txt : OwnI w B 5 .u8 vt s.text
  apart : Apart vp vt
  lt : gp < B ∧ gd < B ∧ gp ≠ gd
  size : B ≤ w.heap.size
def Its (gp gd : Nat) (vp vt : Value) (g : Nat) : Prop := g = gp ∨ g = gd ∨ vp.ownBlock = some g ∨ vt.ownBlock = some g
section
variable {w w' : World} {B gp gd : Nat} {s : PS} {vp vt : Value}
theorem Pv.under (h : Pv w B gp gd s vp vt) (hb : Below w.heap.size w w') : Pv w' B gp gd s vp vt :=
  ⟨h.blk.under hb, Blk.under h.dec hb, h.par.under hb, h.txt.under hb, h.apart, h.lt, Nat.le_trans h.size hb.size⟩
/-- The decoder has turned. -/
theorem Pv.fed (h : Pv w B gp gd s vp vt) {d : DS} (hd : Dec w' gd d) (hg : w.grownBy w' (some gd)) : Pv w' B gp gd { s with d := d } vp vt := by
  have hlt := h.lt
  have k := Keeps.grown hg (S := fun i => i = gd) (fun g h => by injection h with h; exact h.symm)
  exact ⟨k.blk h.blk hlt.2.2, hd, k.own h.par (fun b hb e => by have := (h.par.lt b hb).1; omega), k.own h.txt (fun b hb e => by have := (h.txt.lt b hb).1; omega), h.apart, hlt, Nat.le_trans h.size k.size⟩
theorem Pv.its_lt (h : Pv w B gp gd s vp vt) {g : Nat} (hg : Its gp gd vp vt g) : g < w.heap.size := by
  rcases hg with rfl | rfl | hg | hg
  · exact h.blk.lt
  · exact Blk.lt h.dec
  · exact (h.par.lt g hg).2
  · exact (h.txt.lt g hg).2
/-- Only blocks that are none of the parser's have turned. -/
theorem Pv.far {S : Nat → Prop} (h : Pv w B gp gd s vp vt) (k : Keeps S w w') (hS : ∀ g, S g → ¬ Its gp gd vp vt g) : Pv w' B gp gd s vp vt :=
  ⟨k.blk h.blk (fun e => hS _ e (.inl rfl)), k.blk h.dec (fun e => hS _ e (.inr (.inl rfl))), k.own h.par (fun b hb e => hS _ e (.inr (.inr (.inl hb)))), k.own h.txt (fun b hb e => hS _ e (.inr (.inr (.inr hb)))), h.apart, h.lt, Nat.le_trans h.size k.size⟩
/-- A store into the parser's struct. -/
theorem Pv.keep (h : Pv w B gp gd s vp vt) (i : Nat) (u : Value) : Dec (w.setCell ⟨gp, i, Option.none⟩ u) gd s.d ∧ OwnI (w.setCell ⟨gp, i, Option.none⟩ u) B 3 .i64 vp s.params ∧ OwnI (w.setCell ⟨gp, i, Option.none⟩ u) B 5 .u8 vt s.text ∧ B ≤ (w.setCell ⟨gp, i, Option.none⟩ u).heap.size ∧ Keeps (Its gp gd vp vt) w (w.setCell ⟨gp, i, Option.none⟩ u) := by
  have hlt := h.lt
  have k : Keeps (fun j => j = gp) w (w.setCell ⟨gp, i, Option.none⟩ u) := Keeps.setCell (S := fun j => j = gp) (p := ⟨gp, i, Option.none⟩) (Keeps.refl _ _) (.inl rfl) _
  exact ⟨k.blk h.dec (fun e => hlt.2.2 e.symm), k.own h.par (fun b hb e => by have := (h.par.lt b hb).1; omega), k.own h.txt (fun b hb e => by have := (h.txt.lt b hb).1; omega), Nat.le_trans h.size k.size, k.mono (fun g e => .inl e)⟩
theorem Pv.setSt (h : Pv w B gp gd s vp vt) (n : Nat) : Pv (w.setCell ⟨gp, 1, Option.none⟩ (.int .i64 n)) B gp gd { s with st := n } vp vt ∧ Keeps (Its gp gd vp vt) w (w.setCell ⟨gp, 1, Option.none⟩ (.int .i64 n)) := by
  obtain ⟨a, b, c, d, k⟩ := h.keep 1 (.int .i64 n)
  exact ⟨⟨h.blk.s8_1 _, a, b, c, h.apart, h.lt, d⟩, k⟩
theorem Pv.setMark (h : Pv w B gp gd s vp vt) (m : Int) : Pv (w.setCell ⟨gp, 3, Option.none⟩ (.int .u8 m)) B gp gd { s with mark := m } vp vt ∧ Keeps (Its gp gd vp vt) w (w.setCell ⟨gp, 3, Option.none⟩ (.int .u8 m)) := by
  obtain ⟨a, b, c, d, k⟩ := h.keep 3 (.int .u8 m)
  exact ⟨⟨h.blk.s8_3 _, a, b, c, h.apart, h.lt, d⟩, k⟩
theorem Pv.setBegun (h : Pv w B gp gd s vp vt) (x : Bool) : Pv (w.setCell ⟨gp, 2, Option.none⟩ (.bool x)) B gp gd { s with begun := x } vp vt ∧ Keeps (Its gp gd vp vt) w (w.setCell ⟨gp, 2, Option.none⟩ (.bool x)) := by
  obtain ⟨a, b, c, d, k⟩ := h.keep 2 (.bool x)
  exact ⟨⟨h.blk.s8_2 _, a, b, c, h.apart, h.lt, d⟩, k⟩
theorem Pv.setMiddle (h : Pv w B gp gd s vp vt) (x : Bool) : Pv (w.setCell ⟨gp, 4, Option.none⟩ (.bool x)) B gp gd { s with middle := x } vp vt ∧ Keeps (Its gp gd vp vt) w (w.setCell ⟨gp, 4, Option.none⟩ (.bool x)) := by
  obtain ⟨a, b, c, d, k⟩ := h.keep 4 (.bool x)
  exact ⟨⟨h.blk.s8_4 _, a, b, c, h.apart, h.lt, d⟩, k⟩
theorem Pv.setLong (h : Pv w B gp gd s vp vt) (x : Bool) : Pv (w.setCell ⟨gp, 7, Option.none⟩ (.bool x)) B gp gd { s with long := x } vp vt ∧ Keeps (Its gp gd vp vt) w (w.setCell ⟨gp, 7, Option.none⟩ (.bool x)) := by
  obtain ⟨a, b, c, d, k⟩ := h.keep 7 (.bool x)
  exact ⟨⟨h.blk.s8_7 _, a, b, c, h.apart, h.lt, d⟩, k⟩
/-- The numbers' slice is another: it is the call's own and apart. -/
theorem Pv.setPar (h : Pv w B gp gd s vp vt) (v : Value) (zs : List Int) (hv : OwnI w B 3 .i64 v zs) (ha : Apart v vt) : Pv (w.setCell ⟨gp, 5, Option.none⟩ v) B gp gd { s with params := zs } v vt ∧ Keeps (Its gp gd vp vt) w (w.setCell ⟨gp, 5, Option.none⟩ v) := by
  have hlt := h.lt
  obtain ⟨a, b, c, d, k⟩ := h.keep 5 v
  have k2 : Keeps (fun j => j = gp) w (w.setCell ⟨gp, 5, Option.none⟩ v) := Keeps.setCell (S := fun j => j = gp) (p := ⟨gp, 5, Option.none⟩) (Keeps.refl _ _) (.inl rfl) _
  exact ⟨⟨h.blk.s8_5 _, a, k2.own hv (fun b hb e => by have := (hv.lt b hb).1; omega), c, ha, h.lt, d⟩, k⟩
theorem Pv.setTxt (h : Pv w B gp gd s vp vt) (v : Value) (zs : List Int) (hv : OwnI w B 5 .u8 v zs) (ha : Apart vp v) : Pv (w.setCell ⟨gp, 6, Option.none⟩ v) B gp gd { s with text := zs } vp v ∧ Keeps (Its gp gd vp vt) w (w.setCell ⟨gp, 6, Option.none⟩ v) := by
  have hlt := h.lt
  obtain ⟨a, b, c, d, k⟩ := h.keep 6 v
  have k2 : Keeps (fun j => j = gp) w (w.setCell ⟨gp, 6, Option.none⟩ v) := Keeps.setCell (S := fun j => j = gp) (p := ⟨gp, 6, Option.none⟩) (Keeps.refl _ _) (.inl rfl) _
  exact ⟨⟨h.blk.s8_6 _, a, b, k2.own hv (fun b hb e => by have := (hv.lt b hb).1; omega), ha, h.lt, d⟩, k⟩
end
/-- What a byte's call leaves: its acts in new memory, the parser turned. -/
def FeedEnd (w : World) (B gp gd : Nat) (vp vt : Value) (r : List TAct × PS) (e : Ending) (w' : World) : Prop :=
  ∃ A c L vp' vt', e = .returned (.slice A r.1.length c) ∧ L.map (·.1) = r.1 ∧ Acs w' w.heap.size (.slice A r.1.length c) L ∧ Pv w' B gp gd r.2 vp' vt' ∧ Keeps (Its gp gd vp vt) w w' ∧
    (∀ g, Its gp gd vp' vt' g → (Its gp gd vp vt g ∨ w.heap.size ≤ g) ∧ Clear (.slice A r.1.length c) L g)
theorem FeedEnd.same {w w' : World} {B gp gd : Nat} {vp vt : Value} {s : PS} {r : List TAct × PS} {A : Option Addr} {c : Nat} {L : List AE} (h0 : Pv w B gp gd s vp vt) (hA : Acs w' w.heap.size (.slice A r.1.length c) L) (hL : L.map (·.1) = r.1) (hP : Pv w' B gp gd r.2 vp vt) (k : Keeps (Its gp gd vp vt) w w') :
    FeedEnd w B gp gd vp vt r (.returned (.slice A r.1.length c)) w' :=
  ⟨A, c, L, vp, vt, rfl, hL, hA, hP, k, fun g hg => ⟨.inl hg, hA.clear_low (h0.its_lt hg)⟩⟩
theorem FeedEnd.none {w w' : World} {B gp gd : Nat} {vp vt vp' vt' : Value} {r : List TAct × PS} (hr : r.1 = []) (hP : Pv w' B gp gd r.2 vp' vt') (k : Keeps (Its gp gd vp vt) w w') (hi : ∀ g, Its gp gd vp' vt' g → Its gp gd vp vt g ∨ w.heap.size ≤ g) :
    FeedEnd w B gp gd vp vt r (.returned nilV) w' := by
  refine ⟨Option.none, 0, [], vp', vt', by rw [hr]; rfl, by rw [hr]; rfl, by rw [hr]; exact Acs.nil _ _, hP, k, fun g hg => ⟨hi g hg, ?_⟩⟩
  rw [hr]
  exact ⟨(fun e => by cases e), (fun q hq => by cases hq)⟩

set_option maxRecDepth 100000 in
theorem osc_any (w : World) (B gp gd : Nat) (s : PS) (vp vt : Value) (hP : Pv w B gp gd s vp vt) (hw : WF s) :
    Calls Tryd.prog 26 #[.pointer (some ⟨gp, 0, Option.none⟩)] w fun e w' => ∃ A c L, e = .returned (.slice A (osc s).length c) ∧ L.map (·.1) = osc s ∧ Acs w' w.heap.size (.slice A (osc s).length c) L ∧ Below w.heap.size w w' := by
  have HP := Lib.hid hP
  have c1 : w.cell? ⟨gp, 1, Option.none⟩ = some (.int .i64 s.st) := hP.blk.cell 1
  have c7 : w.cell? ⟨gp, 7, Option.none⟩ = some (.bool s.long) := hP.blk.cell 7
  have htl := hw.tlen
  clear hP hw
  by_cases h5 : s.st = 5
  · cases hl : s.long
    · have ho : osc s = [⟨5, 0, 0, 0, [], s.text⟩] := by unfold osc; rw [if_pos ⟨h5, hl⟩]
      obtain ⟨A0, c0, ev, _⟩ := HP.out.txt.form
      have hown := HP.out.txt
      rw [ev] at hown
      have c6 : w.cell? ⟨gp, 6, Option.none⟩ = some (.slice A0 s.text.length c0) := by rw [← ev]; exact HP.out.blk.cell 6
      rw [h5] at c1
      rw [hl] at c7
      rw [ho]
      have HOWN := Lib.hid hown
      clear ho ev hown h5 hl
      go_enter Tryd.func26, Tryd.ntmps26
      go_wp2_with (at_builtin; first
        | (refine wpList_append_to _ rfl (.const (.slice Option.none 0 0)) (.tmp 17) 23 5 .u8 1 rfl Tryd.underlying23 (by kernel_rfl) (by omega) w.heap.size nilV [] rfl (OwnI.nil _ _ _ _) A0 c0 s.text.length s.text rfl HOWN.out.read rfl s.text.length s.text rfl (by simp) (by omega) (Nat.le_refl _) ?_; intro A2 c2 w2 hap; have HAP := Lib.hid hap; clear hap))
      go_ret
      have hb2 := below_of_only (Below.refl w.heap.size w) HAP.out.only (Nat.le_refl _) (fun x hx => by cases hx)
      exact ⟨some ⟨w2.heap.size, 0, Option.none⟩, 1, [(⟨5, 0, 0, 0, [], s.text⟩, nilV, .slice A2 s.text.length c2)], rfl, rfl, Acs.lit1 w2 w.heap.size (⟨5, 0, 0, 0, [], s.text⟩, nilV, .slice A2 s.text.length c2) hb2.size (OwnI.nil _ _ _ _) HAP.out.own, below_alloc hb2 _⟩
    · have ho : osc s = [] := by unfold osc; rw [if_neg (by simp [hl])]
      rw [h5] at c1
      rw [hl] at c7
      rw [ho]
      clear ho h5 hl
      go_enter Tryd.func26, Tryd.ntmps26
      go_wp2_with fail
      go_ret
      exact ⟨Option.none, 0, [], rfl, rfl, Acs.nil _ _, Below.refl _ _⟩
  · have ho : osc s = [] := by unfold osc; rw [if_neg (by simp [h5])]
    have d : ((s.st : Int) != 5) = true := by simp; omega
    rw [ho]
    clear ho h5
    go_enter Tryd.func26, Tryd.ntmps26
    go_wp2_with fail
    go_ret
    exact ⟨Option.none, 0, [], rfl, rfl, Acs.nil _ _, Below.refl _ _⟩
end Go.Proofs.YtijjnpegokfidaaDoor
