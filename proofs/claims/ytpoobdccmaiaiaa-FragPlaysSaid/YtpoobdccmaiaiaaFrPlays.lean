/- The walk of the law FragPlays. -/
import Derived.Test.YtpoobdccmaiaiaaFrOpen
import Derived.Test.YtpoobdccmaiaiaaFrLawP
import Derived.Test.YtpoobdccmaiaiaaU8s
import Derived.Test.YtpoobdccmaiaiaaFrSplits
namespace Go.Proofs.Ytpoobdccmaiaiaa
open Go.RowKit
open Frag
set_option linter.unusedVariables false
set_option linter.unusedSimpArgs false

namespace Frag
/-- What a Take answers with bytes leaves no entries. -/
theorem take_out (s : JS) (p : PV) (h : (s.take p).1.out ≠ []) : (s.take p).2.es = [] := by
  have key : ∀ s1 : JS, (s1.tail p).1.out ≠ [] → (s1.tail p).2.es = [] := fun s1 h => by
    unfold JS.tail at h ⊢
    split
    · rename_i h1; rw [if_pos h1] at h; exact absurd rfl h
    · rename_i h1
      rw [if_neg h1] at h
      split
      · rename_i h2; rw [if_pos h2] at h; exact absurd rfl h
      · rfl
  unfold JS.take at h ⊢
  split
  · rename_i h1; rw [if_pos h1] at h; exact absurd rfl h
  · rename_i h1
    rw [if_neg h1] at h
    split
    · rename_i h2; rw [if_pos h2] at h; exact absurd rfl h
    · rename_i h2
      rw [if_neg h2] at h
      split
      · rename_i h3; rw [if_pos h3] at h; exact key _ h
      · rename_i h3
        rw [if_neg h3] at h
        split
        · rename_i h4; rw [if_pos h4] at h; exact absurd rfl h
        · rename_i h4; rw [if_neg h4] at h; exact key _ h
theorem rtake_may_of (T : List PV) (p : PV) (h : (rtake T p).2 = true) : mayP p = true := by
  cases hm : mayP p
  · unfold rtake at h
    rw [if_pos hm] at h
    exact absurd h (by decide)
  · rfl
end Frag
/-- The document's Take, of any part. -/
theorem rtake_any (p : PV) (A2 : Option Addr) (n2 c2 : Nat) (w : World) (A : Option Addr) (c : Nat) (L : List (PV × Value)) (hL : PartsR w A L) (hlen : L.length ≤ 1000) (hcap : L.length ≤ c) (hn : n2 = p.bs.length) (hl : n2 ≤ 9223372036854775807) (hr : ReadI w .u8 A2 p.bs) (hsm : ∀ q ∈ L, q.1.bs.length ≤ 448) :
    Calls Try.prog 15 #[.agg #[.slice A L.length c], partV p A2 n2 c2] w (RTakeAll w p A2 n2 c2 A c L) := by
  cases hm : mayP p
  · exact rtake_not p A2 n2 c2 w A c L hL hn hl hm
  · exact rtake_may p A2 n2 c2 w A c L hL hlen hcap hn hl hr hm hsm

/-- What the law holds: the program's joiner, the document's list, in memory. w: the world when the law began; gm: where the document's joiner lies. -/
structure PR (w : World) (gm : Nat) (s : JS) (L : List (PV × Value)) (E : List (Int × Value × List Int)) (A : Option Addr) (c : Nat) (wx : World) : Prop where
  j : Jn wx (w.heap.size + 2) (w.heap.size + 1) w.heap.size s E
  ok : JOk s
  box : Blk wx gm 40 #[.slice A L.length c]
  row : OwnR wx (gm + 1) 34 4 (.slice A L.length c) L.length (L.flatMap cells)
  bytes : ∀ q ∈ L, ∃ B c, q.2 = .slice B q.1.bs.length c ∧ ReadI w .u8 B q.1.bs ∧ q.1.bs.length ≤ 448
  below : Below w.heap.size w wx
  gm : w.heap.size + 2 ≤ gm
section
variable {w : World} {gm : Nat} {s : JS} {L : List (PV × Value)} {E : List (Int × Value × List Int)} {A : Option Addr} {c : Nat} {wx w' : World}
theorem PR.lt (h : PR w gm s L E A c wx) : gm < wx.heap.size := h.box.lt
theorem PR.under (h : PR w gm s L E A c wx) (hb : Below wx.heap.size wx w') : PR w gm s L E A c w' :=
  ⟨h.j.under hb, h.ok, h.box.under hb, h.row.under hb, h.bytes, h.below.trans (hb.mono h.below.size), h.gm⟩
/-- Only a block that is none of these has turned. -/
theorem PR.far (h : PR w gm s L E A c wx) {g : Nat} (k : Keeps (fun i => i = g) wx w') (hg : gm < g) (hE : ∀ e ∈ E, e.2.1.ownBlock ≠ some g) (hA : (Value.slice A L.length c).ownBlock ≠ some g) : PR w gm s L E A c w' := by
  have hgm := h.gm
  exact ⟨h.j.keeps k (by omega) (by omega) (fun e he b hb e1 => hE e he (e1 ▸ hb)), h.ok, k.blk h.box (by omega), k.row h.row (fun b hb e1 => hA (e1 ▸ hb)), h.bytes, k.below h.below h.below.size (fun b hb => by omega), h.gm⟩
theorem PR.parts (h : PR w gm s L E A c wx) : PartsR wx A L := ⟨OwnR.read h.row, fun q hq => by obtain ⟨B, c, e, hr, _⟩ := h.bytes q hq; exact ⟨B, c, e, hr.under h.below⟩⟩
theorem PR.cap (h : PR w gm s L E A c wx) : L.length ≤ c := by
  obtain ⟨A0, c0, e, h1, _⟩ := OwnR.form h.row
  injection e with _ _ e
  omega
end

theorem bytesOf_nil {E : List (Int × Value × List Int)} (h : bytesOf E = []) : E = [] := by
  unfold bytesOf at h
  exact List.map_eq_nil_iff.1 h
/-- The two joiners behind their Takes, and the list stored. -/
theorem PR.put {w : World} {gm : Nat} {s' : JS} {L : List (PV × Value)} {E : List (Int × Value × List Int)} {A AT : Option Addr} {c n cT : Nat} {t : PV} {B : Option Addr} {c4 : Nat} {w4 w5 : World} (h : PR w gm s' L E A c w4) (hb : Below w4.heap.size w4 w5)
    (hr : ReadI w .u8 B t.bs)
    (hT : ((rtake (L.map (·.1)) t).2 = false ∧ AT = A ∧ n = L.length ∧ cT = c) ∨ ((rtake (L.map (·.1)) t).2 = true ∧ n = L.length + 1 ∧ OwnR w5 w4.heap.size 34 4 (.slice AT (L.length + 1) cT) (L.length + 1) (L.flatMap cells ++ cells (t, .slice B t.bs.length c4)))) :
    ∃ L' : List (PV × Value), L'.map (·.1) = (if (rtake (L.map (·.1)) t).2 then L.map (·.1) ++ [t] else L.map (·.1)) ∧ L'.length ≤ L.length + 1 ∧ n = L'.length ∧ PR w gm s' L' E AT cT (w5.setCell ⟨gm, 0, none⟩ (.slice AT n cT)) ∧ (∀ g, (Value.slice AT L'.length cT).ownBlock = some g → (Value.slice A L.length c).ownBlock = some g ∨ w4.heap.size ≤ g) := by
  have h5 := h.under hb
  have hgm := h.gm
  have hlt := h.lt
  have k : Keeps (fun i => i = gm) w5 (w5.setCell ⟨gm, 0, none⟩ (.slice AT n cT)) := Keeps.setCell (S := fun i => i = gm) (p := ⟨gm, 0, none⟩) (Keeps.refl _ _) (.inl rfl) _
  have hE : ∀ e ∈ E, ∀ b, e.2.1.ownBlock = some b → ¬ b = gm := fun e he b hb e1 => by
    subst e1
    have ho := h5.j.own e he
    have hbx := h5.box
    -- a row of bytes is no joiner
    rcases ho.2 with ⟨e2, _⟩ | ⟨g', cap, cur, e2, _, hh, _⟩
    · rw [e2] at hb; cases hb
    · rw [e2] at hb
      simp [Value.ownBlock] at hb
      subst hb
      unfold Blk at hbx
      rw [hbx] at hh
      injection hh with hh
      injection hh with _ hh
      exact absurd hh (by decide)
  have hj := h5.j.keeps k (by omega) (by omega) hE
  have hbel := k.below h5.below h5.below.size (fun g hg => by omega)
  rcases hT with ⟨hf, rfl, rfl, rfl⟩ | ⟨hf, rfl, ho⟩
  · refine ⟨L, by rw [hf]; rfl, by omega, rfl, ⟨hj, h5.ok, h5.box.s1_0 _, k.row h5.row (fun b hb e1 => by have := (h5.row.blocks b hb).1; omega), h5.bytes, hbel, hgm⟩, fun g hg => .inl hg⟩
  · refine ⟨L ++ [(t, .slice B t.bs.length c4)], by rw [hf]; simp, by simp, by simp, ⟨hj, h5.ok, by simpa using h5.box.s1_0 (.slice AT (L.length + 1) cT), ?_, fun q hq => ?_, hbel, hgm⟩, fun g hg => .inr ?_⟩
    · have h1 := OwnR.mono (k.row ho (fun b hb e1 => by have := (ho.blocks b hb).1; omega)) (base' := gm + 1) (by omega)
      rw [List.flatMap_append, List.length_append]
      simpa using h1
    · rcases List.mem_append.1 hq with hq | hq
      · exact h5.bytes q hq
      · rw [List.mem_singleton.1 hq]
        exact ⟨B, c4, rfl, hr, ((mayP_iff t).1 (rtake_may_of _ _ hf)).2.2.2.2.1⟩
    · have hg' : (Value.slice AT (L.length + 1) cT).ownBlock = some g := by
        cases AT with
        | none => cases hg
        | some a => exact hg
      exact (ho.blocks g hg').1
end Go.Proofs.Ytpoobdccmaiaiaa
