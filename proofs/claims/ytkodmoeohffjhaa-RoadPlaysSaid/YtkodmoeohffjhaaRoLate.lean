/- Road.Late walked. -/
import Derived.Test.YtkodmoeohffjhaaRoDrop
import Derived.BigRegion
namespace Go.Proofs.Ytkodmoeohffjhaa
open Go.RowKit Go.Proofs.Ytkodmoeohffjhaa.Hp
set_option linter.unusedVariables false
set_option linter.unusedSimpArgs false

theorem late_nil (i d : Int) (w : World) : Calls Try.prog 24 #[.pointer none, .int .i64 i, .int .i64 d] w fun e w' => e = .returned (.int .i64 1) ∧ w = w' := by
  go_enter Try.func24, Try.ntmps24
  go_wp2_with fail
  go_ret
  exact ⟨rfl, rfl⟩
def lateB (d : Int) : Bool := !(decide (d < 1) || decide (64 < d))
theorem late_parts {d : Int} (h : lateB d = true) : 1 ≤ d ∧ d ≤ 64 := by simp [lateB] at h; omega
theorem late_bad (p : Addr) (i d : Int) (w : World) (hb : lateB d = false) : Calls Try.prog 24 #[.pointer (some p), .int .i64 i, .int .i64 d] w fun e w' => e = .returned (.int .i64 1) ∧ w = w' := by
  have h : d < 1 ∨ 64 < d := by simp [lateB] at hb; omega
  clear hb
  by_cases h1 : d < 1
  · clear h
    go_enter Try.func24, Try.ntmps24
    go_wp2_with fail
    go_ret
    exact ⟨rfl, rfl⟩
  · have t1 : decide (d < 1) = false := decide_eq_false h1
    have t2 : 64 < d := by omega
    clear h
    go_enter Try.func24, Try.ntmps24
    go_wp2_with fail
    go_ret
    exact ⟨rfl, rfl⟩
theorem late_out (B gr : Nat) (now put : Int) (v : Value) (L : List ME) (i d : Int) (w : World) (h : RoadAt B gr now put v L w) (hL : L.length < 99999) (hi : i < 0 ∨ (L.length : Int) ≤ i) (hb : lateB d = true) :
    Calls Try.prog 24 #[.pointer (some ⟨gr, 0, none⟩), .int .i64 i, .int .i64 d] w fun e w' => e = .returned (.int .i64 12) ∧ Below w.heap.size w w' := by
  have hP := place_bad B gr now put v L i w h hL hi
  obtain ⟨h1, h2⟩ := late_parts hb
  have t1 : decide (d < 1) = false := decide_eq_false (by omega)
  have t2 : decide (64 < d) = false := decide_eq_false (by omega)
  clear h hi hb
  go_enter Try.func24, Try.ntmps24
  go_wp2_with (go_at_call 29; refine hP.mono ?_; rintro e w1 ⟨rfl, hb⟩)
  go_ret
  exact ⟨rfl, hb⟩
/-- The mail, held up. -/
abbrev lateQ (now d : Int) (q : ME) : ME := (⟨min (q.1.due + d) (now + 64), q.1.number, q.1.addr, q.1.down, q.1.bs⟩, q.2)
theorem set_same {α : Type} (l : List α) (j : Nat) (u : α) (h : l[j]? = some u) : l.set j u = l := by
  have hl := getElem?_lt h
  have e := List.getElem?_eq_getElem hl
  rw [e] at h
  rw [← Option.some.inj h]
  exact List.set_getElem_self hl
theorem flat_due (L : List ME) (k : Nat) (q : ME) (z : Int) (hq : L[k]? = some q) : (L.flatMap mcell).set (k * 5) (.int .i64 z) = (L.set k (⟨z, q.1.number, q.1.addr, q.1.down, q.1.bs⟩, q.2)).flatMap mcell := by
  have hk := getElem?_lt hq
  have h5 := fun j (hj : j < 5) => mcell_at L k q hq j hj
  have e1 : ((L.flatMap mcell).set (k * 5) (.int .i64 z)).set (k * 5 + 1) (.int .i64 q.1.number) = (L.flatMap mcell).set (k * 5) (.int .i64 z) := set_same _ _ _ (by rw [List.getElem?_set_ne (by omega), h5 1 (by omega)]; rfl)
  have e2 : ((L.flatMap mcell).set (k * 5) (.int .i64 z)).set (k * 5 + 2) (.int .i64 q.1.addr) = (L.flatMap mcell).set (k * 5) (.int .i64 z) := set_same _ _ _ (by rw [List.getElem?_set_ne (by omega), h5 2 (by omega)]; rfl)
  have e3 : ((L.flatMap mcell).set (k * 5) (.int .i64 z)).set (k * 5 + 3) (.bool q.1.down) = (L.flatMap mcell).set (k * 5) (.int .i64 z) := set_same _ _ _ (by rw [List.getElem?_set_ne (by omega), h5 3 (by omega)]; rfl)
  have e4 : ((L.flatMap mcell).set (k * 5) (.int .i64 z)).set (k * 5 + 4) (.slice q.2.1 q.1.bs.length q.2.2) = (L.flatMap mcell).set (k * 5) (.int .i64 z) := set_same _ _ _ (by rw [List.getElem?_set_ne (by omega), h5 4 (by omega)]; rfl)
  have := flat_set L k (⟨z, q.1.number, q.1.addr, q.1.down, q.1.bs⟩, q.2) hk
  simp only [e1, e2, e3, e4] at this
  exact this
theorem set_perm2 {α : Type} : ∀ (L : List α) (k : Nat) (q q' : α), L[k]? = some q → ∃ R, L.Perm (q :: R) ∧ (L.set k q').Perm (q' :: R)
  | [], k, q, q', h => by simp at h
  | a :: L, 0, q, q', h => by
    simp at h
    subst h
    exact ⟨L, List.Perm.refl _, List.Perm.refl _⟩
  | a :: L, k + 1, q, q', h => by
    obtain ⟨R, h1, h2⟩ := set_perm2 L k q q' (by simpa using h)
    exact ⟨a :: R, (h1.cons a).trans (List.Perm.swap _ _ _), (h2.cons a).trans (List.Perm.swap _ _ _)⟩
/-- What Late leaves. -/
def RLated (B gr : Nat) (now put d : Int) (v : Value) (L : List ME) (i : Nat) (w w' : World) : Prop :=
  ∃ q R L', Ith L i q ∧ L.Perm (q :: R) ∧ L'.Perm (lateQ now d q :: R) ∧ RoadAt B gr now put v L' w' ∧ Keeps (Two gr v) w w'
theorem late_fly {B gr g n c k : Nat} {now put z : Int} {L : List ME} {q : ME} {w : World} (h : RoadAt B gr now put (.slice (some ⟨g, 0, none⟩) n c) L w) (hq : L[k]? = some q) :
    Fly (w.setCell ⟨g, k * 5, none⟩ (.int .i64 z)) B gr (.int .i64 now) (.int .i64 put) (.slice (some ⟨g, 0, none⟩) n c) (L.set k (⟨z, q.1.number, q.1.addr, q.1.down, q.1.bs⟩, q.2)) := by
  refine ⟨h.fly.blk.far (p := ⟨g, k * 5, none⟩) (fun e => h.fly.off (by rw [show gr = g from e]; rfl)) _, ?_, h.fly.off⟩
  have := OwnR.set_ h.fly.own (k * 5) (.int .i64 z)
  rw [flat_due L k q z hq] at this
  simpa using this
theorem lated {B gr g n c k i : Nat} {now put d : Int} {L : List ME} {q : ME} {w w1 w3 : World} (h : RoadAt B gr now put (.slice (some ⟨g, 0, none⟩) n c) L w) (hb : Below w.heap.size w w1) (hi : Ith L i q) (hq : L[k]? = some q)
    (hF : HFixed B gr (.int .i64 now) (.int .i64 put) (.slice (some ⟨g, 0, none⟩) n c) (L.set k (lateQ now d q)) (w1.setCell ⟨g, k * 5, none⟩ (.int .i64 (min (q.1.due + d) (now + 64)))).drew w3) : RLated B gr now put d (.slice (some ⟨g, 0, none⟩) n c) L i w w3 := by
  obtain ⟨L', hp, hH, hf, hk⟩ := hF
  have hkl := getElem?_lt hq
  obtain ⟨R, p1, p2⟩ := set_perm2 L k q (lateQ now d q) hq
  have p2 : L'.Perm (lateQ now d q :: R) := hp.trans p2
  have kk : Keeps (Two gr (.slice (some ⟨g, 0, none⟩) n c)) w w3 := ((Keeps.under hb _).setCell (p := ⟨g, k * 5, none⟩) (.inl (.inr rfl)) _).drew.trans hk (fun _ h _ => h)
  have hmem : ∀ p ∈ L', ∃ p0 ∈ L, p.2 = p0.2 ∧ p.1.bs = p0.1.bs := by
    intro p hp
    rcases List.mem_cons.1 (p2.mem_iff.1 hp) with e | e
    · exact ⟨q, hi.mem, by rw [e], by rw [e]⟩
    · exact ⟨p, p1.mem_iff.2 (List.mem_cons_of_mem _ e), rfl, rfl⟩
  have hblk : ∀ p p0 : ME, p.2 = p0.2 → p.1.bs = p0.1.bs → p.blk = p0.blk := fun p p0 e1 e2 => by unfold ME.blk ME.v; rw [e1, e2]
  refine ⟨q, R, L', hi, p1, p2, ⟨hf, fun p hp => ?_, ?_, fun p hp => ?_, hH, h.base⟩, kk⟩
  · obtain ⟨p0, h0, e1, e2⟩ := hmem p hp
    rw [e1, e2]
    exact kk.own (h.own p0 h0) (fun b hb e => by
      rcases e with e | e
      · exact (h.off p0 h0).1 (by rw [← e]; exact hb)
      · exact (h.off p0 h0).2 b e hb)
  · rw [p2.pairwise_iff (fun h => Apart.symm h)]
    have := (p1.pairwise_iff (fun h => Apart.symm h)).1 h.apart
    rw [List.pairwise_cons] at this ⊢
    exact ⟨fun b hb g hg => this.1 b hb g hg, this.2⟩
  · obtain ⟨p0, h0, e1, e2⟩ := hmem p hp
    rw [hblk p p0 e1 e2]
    exact h.off p0 h0
set_option maxHeartbeats 2000000 in
set_option maxRecDepth 100000 in
theorem late_ok (B gr : Nat) (now put d : Int) (v : Value) (L : List ME) (i : Nat) (w : World) (h : RoadAt B gr now put v L w) (hI : RInv now put L) (hi : i < L.length) (hb : lateB d = true) :
    Calls Try.prog 24 #[.pointer (some ⟨gr, 0, none⟩), .int .i64 i, .int .i64 d] w fun e w' => e = .returned (.int .i64 0) ∧ RLated B gr now put d v L i w w' := by
  have hL := hI.len
  have HP := Lib.hid (place_any B gr now put v L i w h (by omega) hi hI.nums)
  obtain ⟨g, c, rfl⟩ := h.fly.form (by rintro rfl; simp at hi)
  have c2 : w.cell? ⟨gr, 2, none⟩ = some (.slice (some ⟨g, 0, none⟩) L.length c) := h.fly.blk.cell 2
  have c0 : w.cell? ⟨gr, 0, none⟩ = some (.int .i64 now) := h.fly.blk.cell 0
  have lt := h.lt
  have hgr : gr ≠ g := fun e => h.fly.off (by rw [e]; rfl)
  have HH := Lib.hid h
  have HI := Lib.hid hI
  obtain ⟨p0, p1, p2, p3⟩ := hI.pos
  obtain ⟨h1, h2⟩ := late_parts hb
  have t1 : decide (d < 1) = false := decide_eq_false (by omega)
  have t2 : decide (64 < d) = false := decide_eq_false (by omega)
  clear h hI hb
  go_enter Try.func24, Try.ntmps24
  go_upto_region 6 with (go_at_call 29; refine HP.out.mono ?_; rintro e w1 ⟨k, q, D, rfl, hD1, hD2, hD3, hk, hb⟩; have HD := Lib.hid (show Ith L i q from ⟨D, hD1, hD2, hD3⟩); have hkl := getElem?_lt hk; have HB := Lib.hid hb; have c2' := (hb.cell (p := ⟨gr, 2, none⟩) lt).trans c2; have c0' := (hb.cell (p := ⟨gr, 0, none⟩) lt).trans c0; obtain ⟨k0, _⟩ := (HH.out.under hb).cells hk; have f0 : w1.frozen? ⟨g, k * 5, none⟩ = false := OwnR.frozen (HH.out.under hb).fly.own (k * 5); have hz := hb.size; have HK := Lib.hid hk; have hdq := HI.out.due q HD.out.mem; clear hb hk hD1 hD2 hD3)
  have s1 : IntKind.i64.wrap (q.1.due + d) = q.1.due + d := IntWalk.i64_in _ (by omega)
  have s2 : IntKind.i64.wrap (now + 64) = now + 64 := IntWalk.i64_in _ (by omega)
  go_region
  clear s1 s2
  have hF := (late_fly (z := min (q.1.due + d) (now + 64)) (HH.out.under HB.out) HK.out).under (below_drew (Below.refl _ _))
  have HX := Lib.hid (hfix_any B gr _ _ _ L.length k (L.set k (lateQ now d q)) _ hF (by simp) (by omega) hkl (set_start ordr_mlt (HH.out.under HB.out).heap (lateQ now d q) hkl (Nat.le_refl _)))
  clear hF
  go_wp2_with (go_at_call 33; refine HX.out.mono ?_; rintro e w3 ⟨rfl, hx⟩; have HX3 := Lib.hid hx; clear hx)
  go_ret
  exact ⟨rfl, lated HH.out HB.out HD.out HK.out HX3.out⟩
end Go.Proofs.Ytkodmoeohffjhaa
