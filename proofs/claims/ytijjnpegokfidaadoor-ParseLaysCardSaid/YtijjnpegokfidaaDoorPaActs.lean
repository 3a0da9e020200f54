/- New and Acts walked. -/
import Derived.Test.YtijjnpegokfidaaDoorPaFeed
namespace Go.Proofs.YtijjnpegokfidaaDoor
open Go.RowKit
open Pa
set_option linter.unusedVariables false
set_option linter.unusedSimpArgs false

set_option maxRecDepth 100000 in
theorem pnew_any (w : World) : Calls Tryd.prog 19 #[] w fun e w' => ∃ gp gd, e = .returned (.pointer (some ⟨gp, 0, none⟩)) ∧ Pv w' w'.heap.size gp gd Pa.start nilV nilV ∧ Below w.heap.size w w' ∧ w.heap.size ≤ gp ∧ w.heap.size ≤ gd := by
  go_enter Tryd.func19, Tryd.ntmps19
  go_wp2_with fail
  refine (new_any w).mono ?_
  rintro e w1 ⟨rfl, hd, hb⟩
  have HD := Lib.hid hd
  have HB := Lib.hid hb
  clear hd hb
  go_wp2_with fail
  go_ret
  have hz := Blk.lt HD.out
  refine ⟨w1.heap.size, w.heap.size, rfl, ⟨Blk.new _ _ _, Blk.under HD.out (below_alloc (Below.refl _ _) _), OwnI.nil _ _ _ _, OwnI.nil _ _ _ _, Apart.none _, ?_, Nat.le_refl _⟩, below_alloc HB.out _, HB.out.size, Nat.le_refl _⟩
  have : (w1.alloc (.cells #[.pointer (some ⟨w.heap.size, 0, none⟩), .int .i64 0, .bool false, .int .u8 0, .bool false, .slice none 0 0, .slice none 0 0, .bool false] 51)).heap.size = w1.heap.size + 1 := by simp
  refine ⟨?_, ?_, by omega⟩
  · simp
  · simp; omega
/-- Acts being gathered while a parser is fed. -/
structure AR (W wr : World) (N B gp gd : Nat) (s0 : PS) (pre : List Int) (vp vt v : Value) (L : List AE) : Prop where
  pv : Pv wr B gp gd (after s0 pre) vp vt
  map : L.map (·.1) = told s0 pre
  acs : Acs wr N v L
  clear : ∀ g, Its gp gd vp vt g → Clear v L g
  its : ∀ g, Its gp gd vp vt g → N ≤ g
  bel : Below N W wr
theorem AR.next {W wr w1 w2 : World} {N B gp gd : Nat} {s0 : PS} {pre : List Int} {vp vt v vp' vt' vM v' : Value} {L M : List AE} {b : Int} (h : AR W wr N B gp gd s0 pre vp vt v L) (hN : N ≤ wr.heap.size)
    (hM : M.map (·.1) = (feedP (after s0 pre) b).1) (hA : Acs w1 wr.heap.size vM M) (hP : Pv w1 B gp gd (feedP (after s0 pre) b).2 vp' vt') (hK : Keeps (Its gp gd vp vt) wr w1)
    (hI : ∀ g, Its gp gd vp' vt' g → (Its gp gd vp vt g ∨ wr.heap.size ≤ g) ∧ Clear vM M g)
    (ha : AppedR w1 w2 N 25 6 v v' (L ++ M).length ((L ++ M).flatMap acell)) : AR W w2 N B gp gd s0 (pre ++ [b]) vp' vt' v' (L ++ M) := by
  have hA1 : Acs w1 N v L := h.acs.keeps hK h.clear
  have hvlt : ∀ g, v.ownBlock = some g → g < wr.heap.size := fun g hg => (OwnR.blocks h.acs.row g hg).2
  have hvN : ∀ g, v.ownBlock = some g → N ≤ g := fun g hg => (OwnR.blocks h.acs.row g hg).1
  have hk2 : Keeps (fun g => v.ownBlock = some g) w1 w2 := Keeps.grown ha.only (fun g h => h)
  refine ⟨?_, ?_, hA1.cat hA hN hvlt ha, ?_, ?_, ?_⟩
  · rw [after_snoc]
    refine hP.far hk2 (fun g hg hi => ?_)
    rcases (hI g hi).1 with h1 | h1
    · exact (h.clear g h1).1 hg
    · have := hvlt g hg; omega
  · rw [told_snoc, List.map_append, h.map, hM]
  · intro g hg
    have hgl := hP.its_lt hg
    have hz := hK.size
    refine ⟨fun e => ?_, fun q hq => ?_⟩
    · rcases ha.where_ with e1 | e1
      · rw [e1] at e
        rcases (hI g hg).1 with h1 | h1
        · exact (h.clear g h1).1 e
        · have := hvlt g e; omega
      · rw [e1] at e; injection e with e; omega
    · rcases List.mem_append.1 hq with hq | hq
      · rcases (hI g hg).1 with h1 | h1
        · exact (h.clear g h1).2 q hq
        · exact ⟨fun e => by have := ((h.acs.par q hq).lt g e).2; omega, fun e => by have := ((h.acs.txt q hq).lt g e).2; omega⟩
      · exact (hI g hg).2.2 q hq
  · intro g hg
    rcases (hI g hg).1 with h1 | h1
    · exact h.its g h1
    · omega
  · exact Keeps.below (Keeps.below h.bel hK hN h.its) hk2 (Nat.le_trans hN hK.size) hvN
theorem take_snoc (l : List Int) (k : Nat) (h : k < l.length) : l.take (k + 1) = l.take k ++ [l.getD k 0] := by
  rw [List.take_succ_eq_append_getElem h, List.getD_eq_getElem?_getD, List.getElem?_eq_getElem h]
  rfl
def ActsEnd (w : World) (l : List Int) (e : Ending) (w' : World) : Prop := ∃ A c L, e = .returned (.slice A L.length c) ∧ L.map (·.1) = acts l ∧ Acs w' w.heap.size (.slice A L.length c) L ∧ Below w.heap.size w w'
def ActsRel (w : World) (B gp gd : Nat) (l : List Int) (v i : Value) (wr : World) : Prop :=
  ∃ (k : Nat) (A : Option Addr) (c : Nat) (L : List AE) (vp vt : Value), k ≤ l.length ∧ i = .int .i64 k ∧ v = .slice A L.length c ∧ AR w wr w.heap.size B gp gd Pa.start (l.take k) vp vt (.slice A L.length c) L

set_option maxRecDepth 100000 in
set_option maxHeartbeats 1000000 in
theorem acts_any (A : Option Addr) (n c : Nat) (l : List Int) (w : World) (hn : n = l.length) (hx : ReadI w .u8 A l) (hb : ∀ x ∈ l, 0 ≤ x ∧ x < 256) (hl : l.length ≤ 16384) :
    Calls Tryd.prog 11 #[.slice A n c] w (ActsEnd w l) := by
  subst hn
  have HX := Lib.hid hx
  have HB := Lib.hid hb
  clear hx hb
  go_enter Tryd.func11, Tryd.ntmps11
  go_wp2_with fail
  refine (pnew_any w).mono ?_
  rintro e w0 ⟨gp, gd, rfl, hP0, hb0, hgp, hgd⟩
  obtain ⟨B, hB⟩ : ∃ B, B = w0.heap.size := ⟨_, rfl⟩
  rw [← hB] at hP0
  have har0 : AR w w0 w.heap.size B gp gd Pa.start [] nilV nilV nilV [] := ⟨hP0, rfl, Acs.nil _ _, fun g _ => ⟨fun e => by (cases e), fun q hq => by cases hq⟩, (fun g hg => by
    rcases hg with h | h | h | h
    · omega
    · omega
    · cases h
    · cases h), hb0⟩
  have HAR0 := Lib.hid har0
  clear hP0 hb0 hgp hgd hB har0
  go_wp2_with fail
  go_loopw [4, 10] (fun v i wr => ActsRel w B gp gd l v i wr) (fun _ i _ => l.length - (intOf i).toNat)
  case atStart => exact ⟨0, none, 0, [], nilV, nilV, Nat.zero_le _, rfl, rfl, HAR0.out⟩
  case round =>
    obtain ⟨k, A1, c1, L, vp, vt, hk, rfl, rfl, har⟩ := hrel
    have HAR := Lib.hid har
    have hN : w.heap.size ≤ wr.heap.size := har.bel.size
    have hLl : L.length ≤ 32768 := by
      have h1 := congrArg List.length har.map
      have h2 := told_len Pa.start (l.take k)
      rw [List.length_map] at h1
      rw [h1]
      simp at h2
      omega
    clear har
    by_cases hlt : k < l.length
    · obtain ⟨g, o, rfl, hc⟩ := (HX.out.under HAR.out.bel) (by rintro rfl; simp at hlt)
      have hck := hc k hlt
      have hbb : 0 ≤ l.getD k 0 ∧ l.getD k 0 < 256 := HB.out _ (by rw [List.getD_eq_getElem?_getD, List.getElem?_eq_getElem hlt]; exact List.getElem_mem _)
      obtain ⟨b, hb⟩ : ∃ b, b = l.getD k 0 := ⟨_, rfl⟩
      rw [← hb] at hck hbb
      have HBB := Lib.hid hb
      have i1 : (k : Int) < (l.length : Int) := by omega
      have hwf : WF (after Pa.start (l.take k)) := after_ok Pa.start wf_start _ (fun x hx => HB.out x (List.mem_of_mem_take hx))
      have HWF := Lib.hid hwf
      clear hc hb hwf
      go_wp2_with fail
      refine (feedP_any b hbb wr B gp gd (after Pa.start (l.take k)) vp vt HAR.out.pv HWF.out).mono ?_
      rintro e w1 ⟨A2, c2, M, vp', vt', rfl, hM, hA2, hP2, hK, hI⟩
      have hml : (feedP (after Pa.start (l.take k)) b).1.length = M.length := by have := congrArg List.length hM; simpa using this.symm
      have hm2 := feedP_len (after Pa.start (l.take k)) b
      rw [hml] at hA2 hI hm2 ⊢
      have hA1 := HAR.out.acs.keeps hK HAR.out.clear
      have HM := Lib.hid hM
      have HA2 := Lib.hid hA2
      have HP2 := Lib.hid hP2
      have HK := Lib.hid hK
      have HI := Lib.hid hI
      have HA1 := Lib.hid hA1
      have hz1 : w.heap.size ≤ w1.heap.size := Nat.le_trans hN hK.size
      clear hM hA2 hP2 hK hI hA1 hml
      go_wp2_with (at_builtin; first
        | (refine wpList_append_cells _ rfl (.tmp 14) (.tmp 17) 35 25 6 64 rfl Tryd.underlying35 (by kernel_rfl) (by omega) (by omega) w.heap.size (.slice A1 L.length c1) L.length (L.flatMap acell) rfl HA1.out.row A2 c2 M.length (M.flatMap acell) rfl (OwnR.read HA2.out.row) (acell_len M) HA2.out.one (L.length + M.length) rfl _ rfl (by omega) hz1 ?_; intro A4 c4 w4 hap; have HAP := Lib.hid hap; clear hap))
      have hlen2 : (L ++ M).length = L.length + M.length := List.length_append ..
      have hnx : AR w w4 w.heap.size B gp gd Pa.start (l.take (k + 1)) vp' vt' (.slice A4 (L.length + M.length) c4) (L ++ M) := by
        rw [take_snoc l k hlt, ← HBB.out]
        refine HAR.out.next hN HM.out HA2.out HP2.out HK.out HI.out ?_
        have h := HAP.out
        rw [hlen2, List.flatMap_append]
        exact h
      have HNX := Lib.hid hnx
      clear hnx
      go_wp2_with fail
      go_roundw
      case rel => exact ⟨k + 1, A4, c4, L ++ M, vp', vt', by omega, by go_num, by rw [hlen2], by rw [hlen2]; exact HNX.out⟩
      case measure => simp [intOf]; omega
    · obtain rfl : k = l.length := by omega
      rw [List.take_length] at HAR
      go_wp2_with fail
      go_ret
      exact ⟨A1, c1, L, rfl, HAR.out.map, HAR.out.acs, HAR.out.bel⟩
end Go.Proofs.YtijjnpegokfidaaDoor
