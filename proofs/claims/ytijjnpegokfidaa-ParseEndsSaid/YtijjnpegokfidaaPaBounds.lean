/- ParseBounds walked. -/
import Derived.Test.YtijjnpegokfidaaPaFixed
namespace Go.Proofs.Ytijjnpegokfidaa
open Go.RowKit
open Pa
set_option linter.unusedVariables false
set_option linter.unusedSimpArgs false

set_option maxRecDepth 100000 in
set_option maxHeartbeats 1000000 in
theorem pbounds_any (A : Option Addr) (n c : Nat) (l : List Int) (w : World) (hn : n = l.length) (hnb : n ≤ 9000000000000000000) (hx : ReadI w .u8 A l) (hb : ∀ x ∈ l, 0 ≤ x ∧ x < 256) :
    Calls Try.prog 4 #[.slice A n c] w fun e w' => e = .returned (.bool true) ∧ Below w.heap.size w w' := by
  subst hn
  by_cases hl : l.length ≤ 16384
  · have d0 : decide ((16384 : Int) < (l.length : Int)) = false := decide_eq_false (by omega)
    have HX := Lib.hid hx
    have HB := Lib.hid hb
    clear hx hb
    go_enter Try.func4, Try.ntmps4
    go_wp2_with fail
    refine (acts_any A _ c l w rfl HX.out HB.out hl).mono ?_
    rintro e w1 ⟨A1, c1, L, rfl, hL, hA, hb1⟩
    have hok : ∀ q ∈ L, AOk q.1 := fun q hq => told_ok Pa.start wf_start l HB.out q.1 (by
      have h : q.1 ∈ L.map (·.1) := List.mem_map_of_mem hq
      rw [hL] at h
      exact h)
    have hLl : L.length ≤ 32768 := by
      have h1 := congrArg List.length hL
      have h2 := told_len Pa.start l
      rw [List.length_map] at h1
      unfold acts at h1
      omega
    have HOK := Lib.hid hok
    have HR := Lib.hid (hA.rd rfl)
    have HB1 := Lib.hid hb1
    clear hok hA hb1 hL
    go_wp2_with fail
    go_loopw [15] (fun i wr => ∃ k : Nat, k ≤ L.length ∧ i = .int .i64 k ∧ Below w1.heap.size w1 wr) (fun i _ => L.length - (intOf i).toNat)
    case atStart => exact ⟨0, Nat.zero_le _, rfl, Below.refl _ _⟩
    case round =>
      obtain ⟨k, hk, rfl, hbel⟩ := hrel
      have HBEL := Lib.hid hbel
      clear hbel
      by_cases hlt : k < L.length
      · obtain ⟨⟨t, p1, x1⟩, hq⟩ : ∃ q, L[k]? = some q := ⟨_, List.getElem?_eq_getElem hlt⟩
        have hqm := List.mem_of_getElem? hq
        obtain ⟨P1, pc1, e1, rp1⟩ := (HR.out.under HBEL.out).par _ hqm
        obtain ⟨X1, xc1, e3, rx1⟩ := (HR.out.under HBEL.out).txt _ hqm
        simp only [] at e1 e3 rp1 rx1
        subst e1 e3
        obtain ⟨b1, o1, rfl, hc1⟩ := (HR.out.under HBEL.out).cells k _ hq
        have hao := HOK.out _ hqm
        simp only [] at hao
        have u0 : wr.cell? ⟨b1, o1 + k * 6, none⟩ = some (.int .i64 t.kind) := hc1 0 (by omega) _ rfl
        have u1 : wr.cell? ⟨b1, o1 + k * 6 + 1, none⟩ = some (.int .i32 t.rune) := hc1 1 (by omega) _ rfl
        have u2 : wr.cell? ⟨b1, o1 + k * 6 + 2, none⟩ = some (.int .u8 t.mark) := hc1 2 (by omega) _ rfl
        have u3 : wr.cell? ⟨b1, o1 + k * 6 + 3, none⟩ = some (.int .u8 t.final) := hc1 3 (by omega) _ rfl
        have u4 : wr.cell? ⟨b1, o1 + k * 6 + 4, none⟩ = some (.slice P1 t.params.length pc1) := hc1 4 (by omega) _ rfl
        have u5 : wr.cell? ⟨b1, o1 + k * 6 + 5, none⟩ = some (.slice X1 t.text.length xc1) := hc1 5 (by omega) _ rfl
        have i1 : (k : Int) < (L.length : Int) := by omega
        have t1 : decide ((16 : Int) < (t.params.length : Int)) = false := decide_eq_false (by have := hao.params; omega)
        have t2 : decide ((256 : Int) < (t.text.length : Int)) = false := decide_eq_false (by have := hao.text; omega)
        have t3 : decide (t.kind < 1) = false := decide_eq_false (by have := hao.kind; omega)
        have t4 : decide (5 < t.kind) = false := decide_eq_false (by have := hao.kind; omega)
        have hpl := hao.params
        have HPB := Lib.hid hao.pbd
        have hba : ∀ o : Obj, Below w1.heap.size w1 (wr.alloc o) := fun o => HBEL.out.alloc HBEL.out.size o
        have HBA := Lib.hid hba
        have hra : ∀ o : Obj, ReadI (wr.alloc o) .i64 P1 t.params := fun o => rp1.under (below_alloc (Below.refl _ _) o)
        clear hc1 hq hqm hao hba rp1 rx1
        go_wp2_with fail
        go_loopw [42] (fun i wz => ∃ j : Nat, j ≤ t.params.length ∧ i = .int .i64 j ∧ wz = wr.alloc (.cells #[.int .i64 t.kind, .int .i32 t.rune, .int .u8 t.mark, .int .u8 t.final, .slice P1 t.params.length pc1, .slice X1 t.text.length xc1] 33)) (fun i _ => t.params.length - (intOf i).toNat)
        case atStart => exact ⟨0, Nat.zero_le _, rfl, rfl⟩
        case round =>
          obtain ⟨j, hj, rfl, rfl⟩ := hrel
          by_cases hjt : j < t.params.length
          · obtain ⟨g1, a1, rfl, hg1⟩ := hra (.cells #[.int .i64 t.kind, .int .i32 t.rune, .int .u8 t.mark, .int .u8 t.final, .slice P1 t.params.length pc1, .slice X1 t.text.length xc1] 33) (by intro e; rw [e] at hjt; simp at hjt)
            have s1 := hg1 j hjt
            have hxb := HPB.out (t.params.getD j 0) (by rw [List.getD_eq_getElem?_getD, List.getElem?_eq_getElem hjt]; exact List.getElem_mem _)
            obtain ⟨x, hx⟩ : ∃ x, x = t.params.getD j 0 := ⟨_, rfl⟩
            rw [← hx] at s1 hxb
            have j1 : (j : Int) < (t.params.length : Int) := by omega
            have r1 : decide (x < 0) = false := decide_eq_false (by omega)
            have r2 : decide (9999 < x) = false := decide_eq_false (by omega)
            clear hg1 hx
            go_wp2_with fail
            go_roundw
            case rel => exact ⟨j + 1, by omega, by go_num, by first | trivial | rfl⟩
            case measure => simp [intOf]; omega
          · obtain rfl : j = t.params.length := by omega
            go_wp2_with fail
            go_roundw
            case rel => exact ⟨k + 1, by omega, by go_num, HBA.out _⟩
            case measure => simp [intOf]; omega
      · obtain rfl : k = L.length := by omega
        go_wp2_with fail
        refine (pfixed_any wr).mono ?_
        rintro e w2 ⟨rfl, hb2⟩
        have hfin : Below w.heap.size w w2 := (HB1.out.trans (HBEL.out.mono HB1.out.size)).trans (hb2.mono (Nat.le_trans HB1.out.size HBEL.out.size))
        have HFIN := Lib.hid hfin
        clear hb2 hfin
        go_wp2_with fail
        refine (pfeed_nil 97 w2).mono ?_
        rintro e w3 ⟨rfl, rfl⟩
        go_wp2_with fail
        go_ret
        exact ⟨rfl, HFIN.out⟩
  · have d0 : decide ((16384 : Int) < (l.length : Int)) = true := decide_eq_true (by omega)
    clear hx hb hl
    go_enter Try.func4, Try.ntmps4
    go_wp2_with fail
    refine (pfixed_any w).mono ?_
    rintro e w1 ⟨rfl, hb1⟩
    have HB1 := Lib.hid hb1
    clear hb1
    go_wp2_with fail
    go_ret
    exact ⟨rfl, HB1.out⟩
end Go.Proofs.Ytijjnpegokfidaa
