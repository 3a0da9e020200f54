/- The document's Copy of an act walked. -/
import Derived.Test.YtijjnpegokfidaaDoorPaLay
import Derived.Deep.RegionLaw
namespace Go.Proofs.YtijjnpegokfidaaDoor
open Go.RowKit
open Pa
set_option linter.unusedVariables false
set_option linter.unusedSimpArgs false

def CopyEnd (w : World) (t : TAct) (e : Ending) (w' : World) : Prop :=
  ∃ P X pc xc, e = .returned (actV t P X pc xc) ∧ ReadI w' .i64 P t.params ∧ ReadI w' .u8 X t.text ∧ Below w.heap.size w w'
/-- A struct's copy with another text, then its copy as a result. -/
def cpW (w2 : World) (n : Nat) (v a b c d e f : Value) : World := ((((((w2.setCell ⟨n, 5, none⟩ v).setCell ⟨n + 1, 0, none⟩ a).setCell ⟨n + 1, 1, none⟩ b).setCell ⟨n + 1, 2, none⟩ c).setCell ⟨n + 1, 3, none⟩ d).setCell ⟨n + 1, 4, none⟩ e).setCell ⟨n + 1, 5, none⟩ f
theorem cpW_keeps (w2 : World) (n : Nat) (v a b c d e f : Value) : Keeps (fun j => j = n ∨ j = n + 1) w2 (cpW w2 n v a b c d e f) :=
  ((((((((Keeps.refl _ _).setCell (.inl (.inl rfl)) _).setCell (.inl (.inr rfl)) _).setCell (.inl (.inr rfl)) _).setCell (.inl (.inr rfl)) _).setCell (.inl (.inr rfl)) _).setCell (.inl (.inr rfl)) _).setCell (.inl (.inr rfl)) _)
theorem cpW_blk {w2 : World} {n : Nat} {t : TypeId} {x0 x1 x2 x3 x4 x5 : Value} (h : Blk w2 (n + 1) t #[x0, x1, x2, x3, x4, x5]) (v a b c d e f : Value) : Blk (cpW w2 n v a b c d e f) (n + 1) t #[a, b, c, d, e, f] :=
  ((((((h.far (p := ⟨n, 5, none⟩) (by simp) v).s6_0 a).s6_1 b).s6_2 c).s6_3 d).s6_4 e).s6_5 f
set_option maxRecDepth 100000 in
theorem acopy_any (t : TAct) (P X : Option Addr) (pc xc : Nat) (w : World) (hf : Fits t) (hx : ReadI w .i64 P t.params) (hy : ReadI w .u8 X t.text) :
    Calls Tryd.prog 6 #[actV t P X pc xc] w (CopyEnd w t) := by
  have hpl := hf.plen
  have htl := hf.tlen
  obtain ⟨kind, rune, mark, final, params, text⟩ := t
  simp only at hpl htl hx hy
  have HX := Lib.hid hx
  have HY := Lib.hid hy
  clear hf hx hy
  obtain ⟨W0, hW0⟩ : ∃ W0, W0 = (w.alloc (.cells #[.int .i64 kind, .int .i32 rune, .int .u8 mark, .int .u8 final, .slice P params.length pc, .slice X text.length xc] 25)).alloc (.cells #[.int .i64 0, .int .i32 0, .int .u8 0, .int .u8 0, .slice none 0 0, .slice none 0 0] 25) := ⟨_, rfl⟩
  have hz0 : W0.heap.size = w.heap.size + 1 + 1 := by rw [hW0]; simp
  have hb0 : Below w.heap.size w W0 := by rw [hW0]; exact below_alloc (below_alloc (Below.refl _ _) _) _
  have hk0 : Blk W0 w.heap.size 25 #[.int .i64 kind, .int .i32 rune, .int .u8 mark, .int .u8 final, .slice P params.length pc, .slice X text.length xc] := by rw [hW0]; exact (Blk.new _ _ _).alloc _
  have hk1 : Blk W0 (w.heap.size + 1) 25 #[.int .i64 0, .int .i32 0, .int .u8 0, .int .u8 0, .slice none 0 0, .slice none 0 0] := by
    have h := Blk.new (w.alloc (.cells #[.int .i64 kind, .int .i32 rune, .int .u8 mark, .int .u8 final, .slice P params.length pc, .slice X text.length xc] 25)) 25 #[.int .i64 0, .int .i32 0, .int .u8 0, .int .u8 0, .slice none 0 0, .slice none 0 0]
    rw [show (w.alloc (.cells #[.int .i64 kind, .int .i32 rune, .int .u8 mark, .int .u8 final, .slice P params.length pc, .slice X text.length xc] 25)).heap.size = w.heap.size + 1 by simp] at h
    rw [hW0]; exact h
  have ho0 : OwnI (W0.alloc (.cells #[] 3)) w.heap.size 3 .i64 (.slice (some ⟨w.heap.size + 1 + 1, 0, none⟩) 0 0) [] := by
    have h := OwnI.lit0 W0 w.heap.size 3 .i64 (by omega)
    rw [hz0] at h
    exact h
  have HK0 := Lib.hid hk0
  have HK1 := Lib.hid hk1
  have HO0 := Lib.hid ho0
  have HB0 := Lib.hid hb0
  have HW0 := Lib.hid hW0
  have HZ0 := Lib.hid hz0
  have hres : ∀ (A1 A2 : Option Addr) (c1 c2 : Nat) (w1 w2 : World), Apped (W0.alloc (.cells #[] 3)) w1 w.heap.size 3 .i64 (.slice (some ⟨w.heap.size + 1 + 1, 0, none⟩) 0 0) (.slice A1 params.length c1) params →
      OwnI w2 (w1.setCell ⟨w.heap.size, 4, none⟩ (.slice A1 params.length c1)).heap.size 5 .u8 (.slice A2 text.length c2) text → Below (w1.setCell ⟨w.heap.size, 4, none⟩ (.slice A1 params.length c1)).heap.size (w1.setCell ⟨w.heap.size, 4, none⟩ (.slice A1 params.length c1)) w2 →
      (Blk w1 w.heap.size 25 #[.int .i64 kind, .int .i32 rune, .int .u8 mark, .int .u8 final, .slice P params.length pc, .slice X text.length xc] ∧ Blk w2 w.heap.size 25 #[.int .i64 kind, .int .i32 rune, .int .u8 mark, .int .u8 final, .slice A1 params.length c1, .slice X text.length xc] ∧ Blk w2 (w.heap.size + 1) 25 #[.int .i64 0, .int .i32 0, .int .u8 0, .int .u8 0, .slice none 0 0, .slice none 0 0] ∧ Below w.heap.size w w2 ∧ ReadI w2 .i64 A1 params ∧ (∀ b o, A1 = some ⟨b, o, none⟩ → b ≠ w.heap.size ∧ b ≠ w.heap.size + 1)) := fun A1 A2 c1 c2 w1 w2 hap ho2 hb2 => by
    have n0 : some w.heap.size ≠ (Value.slice (some ⟨w.heap.size + 1 + 1, 0, none⟩) 0 0).ownBlock := by simp [Value.ownBlock]; omega
    have n1 : some (w.heap.size + 1) ≠ (Value.slice (some ⟨w.heap.size + 1 + 1, 0, none⟩) 0 0).ownBlock := by simp [Value.ownBlock]
    have b1 := (HK0.out.alloc (.cells #[] 3)).grown hap.only n0
    have b2 := ((HK1.out.alloc (.cells #[] 3)).grown hap.only n1).far (p := ⟨w.heap.size, 4, none⟩) (by simp) (.slice A1 params.length c1)
    have bel1 := below_of_only (below_alloc HB0.out (.cells #[] 3)) hap.only (by simp; have := HZ0.out; omega) (fun x hx => by simp [Value.ownBlock] at hx; omega)
    have bel2 := bel1.setCell (p := ⟨w.heap.size, 4, none⟩) (Nat.le_refl _) (.slice A1 params.length c1)
    have k1 : Keeps (fun j => j = w.heap.size) w1 (w1.setCell ⟨w.heap.size, 4, none⟩ (.slice A1 params.length c1)) := Keeps.setCell (S := fun j => j = w.heap.size) (p := ⟨w.heap.size, 4, none⟩) (Keeps.refl _ _) (.inl rfl) _
    have o1 := k1.own hap.own (fun b hb e => by
      rcases hap.where_ with h | h
      · rw [h] at hb; simp [Value.ownBlock] at hb; omega
      · rw [h] at hb; injection hb with hb; have := HZ0.out; simp at hb; omega)
    exact ⟨b1, (b1.s6_4 (.slice A1 params.length c1)).under hb2, b2.under hb2, bel2.trans (hb2.mono (bel2.size)), (o1.under hb2).read, fun b o e => by
      subst e
      rcases hap.where_ with h | h
      · simp [Value.ownBlock] at h; omega
      · have := HZ0.out; simp [Value.ownBlock] at h; omega⟩
  have hpre : ∀ (A1 : Option Addr) (c1 : Nat) (w1 : World), Apped (W0.alloc (.cells #[] 3)) w1 w.heap.size 3 .i64 (.slice (some ⟨w.heap.size + 1 + 1, 0, none⟩) 0 0) (.slice A1 params.length c1) params →
      Below w.heap.size w (w1.setCell ⟨w.heap.size, 4, none⟩ (.slice A1 params.length c1)) ∧ w.heap.size + 2 ≤ (w1.setCell ⟨w.heap.size, 4, none⟩ (.slice A1 params.length c1)).heap.size := fun A1 c1 w1 hap => by
    have bel1 := below_of_only (below_alloc HB0.out (.cells #[] 3)) hap.only (by simp; have := HZ0.out; omega) (fun x hx => by simp [Value.ownBlock] at hx; omega)
    refine ⟨bel1.setCell (p := ⟨w.heap.size, 4, none⟩) (Nat.le_refl _) (.slice A1 params.length c1), ?_⟩
    have h1 := hap.only.size
    have h2 := HZ0.out
    simp [World.setCell] at h1 ⊢
    omega
  have HPRE := Lib.hid hpre
  have HRES := Lib.hid hres
  clear hpre
  clear hk0 hk1 ho0 hb0 hW0 hz0 hres
  go_enter Tryd.func6, Tryd.ntmps6
  go_wp2_with (at_builtin; rw [← HW0.out]; first
    | (refine wpList_append_to _ rfl (.tmp 3) (.tmp 5) 22 3 .i64 8 rfl Tryd.underlying22 (by kernel_rfl) (by omega) w.heap.size (.slice (some ⟨w.heap.size + 1 + 1, 0, none⟩) 0 0) [] rfl HO0.out P pc params.length params rfl ((HX.out.under HB0.out).alloc _) rfl params.length params rfl (by simp) (by omega) (by have := HZ0.out; simp; omega) ?_; intro A1 c1 w1 hap; have HAP := Lib.hid hap; have hb1 := (HK0.out.alloc (.cells #[] 3)).grown hap.only (by simp [Value.ownBlock]; omega); have y4 : w1.cell? ⟨w.heap.size, 4, none⟩ = some (.slice P params.length pc) := hb1.cell 4; have y5 : w1.cell? ⟨w.heap.size, 5, none⟩ = some (.slice X text.length xc) := hb1.cell 5; have f4 : w1.frozen? ⟨w.heap.size, 4, none⟩ = false := hb1.frozen 4; clear hap hb1))
  refine (copy_any X _ xc text _ rfl (HY.out.under (HPRE.out _ _ _ HAP.out).1) (by omega)).mono ?_
  rintro e w2 ⟨A2, c2, rfl, ho2, hb2⟩
  obtain ⟨_, hk2, hk3, hbel, hrp, hne⟩ := HRES.out A1 A2 c1 c2 w1 w2 HAP.out ho2 hb2
  have u0 : w2.cell? ⟨w.heap.size, 0, none⟩ = some (.int .i64 kind) := hk2.cell 0
  have u1 : w2.cell? ⟨w.heap.size, 1, none⟩ = some (.int .i32 rune) := hk2.cell 1
  have u2 : w2.cell? ⟨w.heap.size, 2, none⟩ = some (.int .u8 mark) := hk2.cell 2
  have u3 : w2.cell? ⟨w.heap.size, 3, none⟩ = some (.int .u8 final) := hk2.cell 3
  have u4 : w2.cell? ⟨w.heap.size, 4, none⟩ = some (.slice A1 params.length c1) := hk2.cell 4
  have u5 : w2.cell? ⟨w.heap.size, 5, none⟩ = some (.slice X text.length xc) := hk2.cell 5
  have g5 : w2.frozen? ⟨w.heap.size, 5, none⟩ = false := hk2.frozen 5
  have v0 : w2.cell? ⟨w.heap.size + 1, 0, none⟩ = some (.int .i64 0) := hk3.cell 0
  have v1 : w2.cell? ⟨w.heap.size + 1, 1, none⟩ = some (.int .i32 0) := hk3.cell 1
  have v2 : w2.cell? ⟨w.heap.size + 1, 2, none⟩ = some (.int .u8 0) := hk3.cell 2
  have v3 : w2.cell? ⟨w.heap.size + 1, 3, none⟩ = some (.int .u8 0) := hk3.cell 3
  have v4 : w2.cell? ⟨w.heap.size + 1, 4, none⟩ = some (.slice none 0 0) := hk3.cell 4
  have v5 : w2.cell? ⟨w.heap.size + 1, 5, none⟩ = some (.slice none 0 0) := hk3.cell 5
  have t0 : w2.frozen? ⟨w.heap.size + 1, 0, none⟩ = false := hk3.frozen 0
  have t1 : w2.frozen? ⟨w.heap.size + 1, 1, none⟩ = false := hk3.frozen 1
  have t2 : w2.frozen? ⟨w.heap.size + 1, 2, none⟩ = false := hk3.frozen 2
  have t3 : w2.frozen? ⟨w.heap.size + 1, 3, none⟩ = false := hk3.frozen 3
  have t4 : w2.frozen? ⟨w.heap.size + 1, 4, none⟩ = false := hk3.frozen 4
  have t5 : w2.frozen? ⟨w.heap.size + 1, 5, none⟩ = false := hk3.frozen 5
  have HO2 := Lib.hid ho2
  have HBEL := Lib.hid hbel
  have HRP := Lib.hid hrp
  have hlo := (HPRE.out _ _ _ HAP.out).2
  have HLO := Lib.hid hlo
  have HNE := Lib.hid hne
  have HK3 := Lib.hid hk3
  clear ho2 hb2 hk2 hk3 hbel hrp hlo hne
  go_wp2_with fail
  have k := cpW_keeps w2 w.heap.size (.slice A2 text.length c2) (.int .i64 kind) (.int .i32 rune) (.int .u8 mark) (.int .u8 final) (.slice A1 params.length c1) (.slice A2 text.length c2)
  have hF := cpW_blk HK3.out (.slice A2 text.length c2) (.int .i64 kind) (.int .i32 rune) (.int .u8 mark) (.int .u8 final) (.slice A1 params.length c1) (.slice A2 text.length c2)
  show bodyPost Tryd.prog Tryd.f6 _ _ _ (cpW w2 w.heap.size (.slice A2 text.length c2) (.int .i64 kind) (.int .i32 rune) (.int .u8 mark) (.int .u8 final) (.slice A1 params.length c1) (.slice A2 text.length c2))
  generalize cpW w2 w.heap.size (.slice A2 text.length c2) (.int .i64 kind) (.int .i32 rune) (.int .u8 mark) (.int .u8 final) (.slice A1 params.length c1) (.slice A2 text.length c2) = wF at k hF ⊢
  have z0 : wF.cell? ⟨w.heap.size + 1, 0, none⟩ = some (.int .i64 kind) := hF.cell 0
  have z1 : wF.cell? ⟨w.heap.size + 1, 1, none⟩ = some (.int .i32 rune) := hF.cell 1
  have z2 : wF.cell? ⟨w.heap.size + 1, 2, none⟩ = some (.int .u8 mark) := hF.cell 2
  have z3 : wF.cell? ⟨w.heap.size + 1, 3, none⟩ = some (.int .u8 final) := hF.cell 3
  have z4 : wF.cell? ⟨w.heap.size + 1, 4, none⟩ = some (.slice A1 params.length c1) := hF.cell 4
  have z5 : wF.cell? ⟨w.heap.size + 1, 5, none⟩ = some (.slice A2 text.length c2) := hF.cell 5
  refine bodyPost_ret (v := actV ⟨kind, rune, mark, final, params, text⟩ A1 A2 c1 c2) (by simp [results, Tryd.results6, go_sem, z0, z1, z2, z3, z4, z5]) rfl ?_
  refine ⟨A1, A2, c1, c2, rfl, k.readI HRP.out (fun b o e hs => ?_), k.readI HO2.out.read (fun b o e hs => ?_), Keeps.below HBEL.out k HBEL.out.size (fun g hg => by omega)⟩
  · have := HNE.out b o e
    omega
  · have := (HO2.out.lt b (by rw [e]; rfl)).1
    have := HLO.out
    omega
end Go.Proofs.YtijjnpegokfidaaDoor
