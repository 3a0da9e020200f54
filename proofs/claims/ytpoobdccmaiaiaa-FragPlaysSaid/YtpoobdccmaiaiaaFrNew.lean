/- The walks of New, and of the document's Same at equal parts. -/
import Derived.Test.YtpoobdccmaiaiaaFrRtake2
import Derived.Test.YtpoobdccmaiaiaaMkApp
namespace Go.Proofs.Ytpoobdccmaiaiaa
open Go.RowKit
open Frag
set_option linter.unusedVariables false
set_option linter.unusedSimpArgs false

def JS.start : JS := ⟨false, false, 0, 0, []⟩
theorem new_any (w : World) : Calls Try.prog 13 #[] w fun e w' => e = .returned (.pointer (some ⟨w.heap.size + 1, 0, none⟩)) ∧ Jn w' (w.heap.size + 2) (w.heap.size + 1) w.heap.size JS.start [] ∧ Below w.heap.size w w' := by
  have hmm := @run_makeMap Try.prog
  go_enter Try.func13, Try.ntmps13
  go_wp2_with fail
  go_ret
  have hb := below_alloc (below_alloc (Below.refl w.heap.size w) (.map #[] 0)) (.cells #[.bool false, .bool false, .int .u32 0, .int .i64 0, .map (some w.heap.size)] 51)
  refine ⟨rfl, ⟨?_, ?_, rfl, (fun _ h => by cases h), ⟨by omega, by omega, by omega⟩, by simp⟩, hb⟩
  · have := Blk.new (w.alloc (.map #[] 0)) 51 #[.bool false, .bool false, .int .u32 0, .int .i64 0, .map (some w.heap.size)]
    simp at this
    exact this
  · exact (MapS.made w .i64).under (below_alloc (Below.refl _ _) _)

set_option maxRecDepth 100000 in
set_option maxHeartbeats 1000000 in
theorem rsame_true (A B : Option Addr) (n m c d : Nat) (L M : List (PV × Value)) (w : World) (hA : PartsR w A L) (hB : PartsR w B M) (hn : n = L.length) (hm : m = L.length) (he : L.map (·.1) = M.map (·.1)) (hl : L.length ≤ 1000) (hsm : ∀ q ∈ L, q.1.bs.length ≤ 448) :
    Calls Try.prog 11 #[.slice A n c, .slice B m d] w fun e w' => e = .returned (.bool true) ∧ Below w.heap.size w w' := by
  subst hn hm
  have t0 : ((L.length : Int) != (L.length : Int)) = false := by simp
  have HA := Lib.hid hA
  have HB := Lib.hid hB
  have HE := Lib.hid he
  have HS := Lib.hid hsm
  clear hA hB he hsm
  go_enter Try.func11, Try.ntmps11
  go_wp2_with fail
  go_loopw [13] (fun i wr => ∃ k : Nat, k ≤ L.length ∧ i = .int .i64 k ∧ Below w.heap.size w wr) (fun i _ => L.length - (intOf i).toNat)
  case atStart => exact ⟨0, by omega, rfl, Below.refl _ _⟩
  case round =>
    obtain ⟨k, hk, rfl, hbw⟩ := hrel
    by_cases hlt : k < L.length
    · have hlen2 : L.length = M.length := by have := congrArg List.length HE.out; simpa using this
      have hltm : k < M.length := by omega
      have hA2 := HA.out.under hbw
      have hB2 := HB.out.under hbw
      obtain ⟨a, o, rfl, q0, q1, q2, q3⟩ := at_id hA2 k hlt
      obtain ⟨b, o2, rfl, r0, r1, r2, r3⟩ := at_id hB2 k hltm
      have heq : L[k].1 = M[k].1 := by
        have h1 : (L.map (·.1))[k]? = (M.map (·.1))[k]? := by rw [HE.out]
        simpa [hlt, hltm] using h1
      obtain ⟨A1, c1, e1, g1⟩ := hA2.bytes L[k] (List.getElem_mem hlt)
      obtain ⟨B1, d1, e2, g2⟩ := hB2.bytes M[k] (List.getElem_mem hltm)
      have hbl := HS.out L[k] (List.getElem_mem hlt)
      rw [e1] at q3
      rw [e2] at r3
      rw [← heq] at r0 r1 r2 r3 g2
      obtain ⟨t, ht⟩ : ∃ t, t = L[k].1 := ⟨_, rfl⟩
      rw [← ht] at q0 q1 q2 q3 r0 r1 r2 r3 g1 g2 hbl
      have d0 : (t.id != t.id) = false := by simp
      have d1' : (t.ix != t.ix) = false := by simp
      have d2 : (t.ct != t.ct) = false := by simp
      have i1 : (k : Int) < (L.length : Int) := by omega
      have G1 := Lib.hid g1
      have G2 := Lib.hid g2
      have HBW := Lib.hid hbw
      have same : ∀ n, Calls Try.prog 12 #[.slice A1 t.bs.length c1, .slice B1 t.bs.length d1] (wr.drewN n) fun e w' => e = .returned (.bool true) ∧ ∃ m, w' = (wr.drewN n).drewN m := fun n =>
        (sameB_any A1 B1 c1 d1 t.bs t.bs (wr.drewN n) g1 g2 (by omega) (by omega)).mono fun e w' ⟨h1, h2⟩ => ⟨by rw [h1]; simp, h2⟩
      have HSAME := Lib.hid same
      clear hlen2 hA2 hB2 heq e1 e2 ht g1 g2 hbw same
      go_wp2_with fail
      go_quiet ((go_at_call 12; exact Calls.quiet_of (HSAME.out _)))
      go_wp2_with fail
      go_roundw
      case rel => exact ⟨k + 1, by omega, by go_num, by repeat first | exact HBW.out | refine below_drewN ?_ _⟩
      case measure => simp [intOf]; omega
    · go_wp2_with fail
      go_ret
      exact ⟨rfl, hbw⟩
end Go.Proofs.Ytpoobdccmaiaiaa
