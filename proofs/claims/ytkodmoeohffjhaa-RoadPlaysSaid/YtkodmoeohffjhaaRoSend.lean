/- Road.Send, Road.Count, New walked; the nil road. -/
import Derived.Test.YtkodmoeohffjhaaRoAdd1
namespace Go.Proofs.Ytkodmoeohffjhaa
open Go.RowKit Go.Proofs.Ytkodmoeohffjhaa.Hp
set_option linter.unusedVariables false
set_option linter.unusedSimpArgs false

theorem new_any (w : World) : Calls Try.prog 7 #[] w fun e w' => e = .returned (.pointer (some ⟨w.heap.size, 0, none⟩)) ∧ ∀ B, B ≤ w.heap.size → RoadAt B w.heap.size 0 0 (.slice none 0 0) [] w' ∧ Below w.heap.size w w' := by
  go_enter Try.func7, Try.ntmps7
  go_wp2
  go_ret
  exact ⟨rfl, fun B hB => ⟨⟨⟨Blk.new _ _ _, by simpa using OwnR.nil _ B _ 5, by simp [Value.ownBlock]⟩, by simp, List.Pairwise.nil, by simp, fun k _ h => by simp at h, hB⟩, below_alloc (Below.refl _ _) _⟩⟩
theorem count_any (B gr : Nat) (now put : Int) (v : Value) (L : List ME) (w : World) (h : RoadAt B gr now put v L w) (hL : L.length < 99999) :
    Calls Try.prog 14 #[.pointer (some ⟨gr, 0, none⟩)] w fun e w' => e = .returned (.int .i64 L.length) ∧ w = w' := by
  obtain ⟨A, c, rfl, _, _⟩ := OwnR.form h.fly.own
  have c2 : w.cell? ⟨gr, 2, none⟩ = some (.slice A L.length c) := h.fly.blk.cell 2
  clear h
  go_enter Try.func14, Try.ntmps14
  go_wp2
  go_ret
  exact ⟨rfl, rfl⟩
theorem count_nil (w : World) : Calls Try.prog 14 #[.pointer none] w fun e w' => e = .returned (.int .i64 0) ∧ w = w' := by
  go_enter Try.func14, Try.ntmps14
  go_wp2
  go_ret
  exact ⟨rfl, rfl⟩
set_option maxRecDepth 100000 in
theorem send_nil (addr : Int) (down : Bool) (A : Option Addr) (n c : Nat) (d : Int) (w : World) : Calls Try.prog 12 #[.pointer none, gramV addr down A n c, .int .i64 d] w fun e w' => e = .returned (.int .i64 1) ∧ Below w.heap.size w w' := by
  go_enter Try.func12, Try.ntmps12
  go_wp2_with fail
  go_ret
  exact ⟨rfl, below_alloc (Below.refl _ _) _⟩
/-- May it be sent? -/
def sendB (addr d : Int) (n : Nat) : Bool := !(decide (d < 1) || decide (64 < d) || decide (542 < (n : Int)) || decide (addr < 0) || decide (255 < addr))
set_option maxRecDepth 100000 in
theorem send_bad (p : Addr) (addr : Int) (down : Bool) (A : Option Addr) (n c : Nat) (d : Int) (w : World) (hb : sendB addr d n = false) (hn : n ≤ 9223372036854775807) :
    Calls Try.prog 12 #[.pointer (some p), gramV addr down A n c, .int .i64 d] w fun e w' => e = .returned (.int .i64 1) ∧ Below w.heap.size w w' := by
  have h : d < 1 ∨ 64 < d ∨ 542 < (n : Int) ∨ addr < 0 ∨ 255 < addr := by simp [sendB] at hb; omega
  clear hb
  by_cases h1 : d < 1
  · clear h
    go_enter Try.func12, Try.ntmps12
    go_wp2_with fail
    go_ret
    exact ⟨rfl, below_alloc (Below.refl _ _) _⟩
  · have t1 : decide (d < 1) = false := decide_eq_false h1
    by_cases h2 : 64 < d
    · clear h
      go_enter Try.func12, Try.ntmps12
      go_wp2_with fail
      go_ret
      exact ⟨rfl, below_alloc (Below.refl _ _) _⟩
    · have t2 : decide (64 < d) = false := decide_eq_false h2
      by_cases h3 : 542 < (n : Int)
      · clear h
        go_enter Try.func12, Try.ntmps12
        go_wp2_with fail
        go_ret
        exact ⟨rfl, below_alloc (Below.refl _ _) _⟩
      · have t3 : decide (542 < (n : Int)) = false := decide_eq_false h3
        by_cases h4 : addr < 0
        · clear h
          go_enter Try.func12, Try.ntmps12
          go_wp2_with fail
          go_ret
          exact ⟨rfl, below_alloc (Below.refl _ _) _⟩
        · have t4 : decide (addr < 0) = false := decide_eq_false h4
          have h5 : 255 < addr := by omega
          clear h
          go_enter Try.func12, Try.ntmps12
          go_wp2_with fail
          go_ret
          exact ⟨rfl, below_alloc (Below.refl _ _) _⟩
theorem send_parts {addr d : Int} {n : Nat} (h : sendB addr d n = true) : 1 ≤ d ∧ d ≤ 64 ∧ (n : Int) ≤ 542 ∧ 0 ≤ addr ∧ addr ≤ 255 := by simp [sendB] at h; omega
set_option maxRecDepth 100000 in
theorem send_full (B gr : Nat) (now put : Int) (v : Value) (L : List ME) (addr : Int) (down : Bool) (A : Option Addr) (n c : Nat) (d : Int) (w : World) (h : RoadAt B gr now put v L w) (hL : L.length < 99999) (hf : 4096 ≤ L.length) (hs : sendB addr d n = true) :
    Calls Try.prog 12 #[.pointer (some ⟨gr, 0, none⟩), gramV addr down A n c, .int .i64 d] w fun e w' => e = .returned (.int .i64 11) ∧ Below w.heap.size w w' := by
  obtain ⟨h1, h2, h3, h4, h5⟩ := send_parts hs
  have t1 : decide (d < 1) = false := decide_eq_false (by omega)
  have t2 : decide (64 < d) = false := decide_eq_false (by omega)
  have t3 : decide (542 < (n : Int)) = false := decide_eq_false (by omega)
  have t4 : decide (addr < 0) = false := decide_eq_false (by omega)
  have t5 : decide (255 < addr) = false := decide_eq_false (by omega)
  obtain ⟨A0, c0, rfl, _, _⟩ := OwnR.form h.fly.own
  have c2 : w.cell? ⟨gr, 2, none⟩ = some (.slice A0 L.length c0) := h.fly.blk.cell 2
  have lt := h.lt
  clear h hs
  go_enter Try.func12, Try.ntmps12
  go_wp2_with fail
  go_ret
  exact ⟨rfl, below_alloc (Below.refl _ _) _⟩
theorem RAdded.from {B gr : Nat} {now put : Int} {v : Value} {L : List ME} {d : MD} {w w1 w2 : World} (hb : Below w.heap.size w w1) (h : RAdded B gr now put v L d w1 w2) : RAdded B gr now put v L d w w2 := by
  obtain ⟨v', L', A, c, h1, h2, h3, h4, h5⟩ := h
  have hz := hb.size
  refine ⟨v', L', A, c, h1, h2, (Keeps.under hb _).trans h3 (fun _ h _ => h), ?_, fun g hg => by have := h5 g hg; omega⟩
  rcases h4 with h4 | ⟨b, e, hge⟩
  · exact .inl h4
  · exact .inr ⟨b, e, by omega⟩
set_option maxHeartbeats 1000000 in
set_option maxRecDepth 100000 in
theorem send_ok (B gr : Nat) (now put : Int) (v : Value) (L : List ME) (addr : Int) (down : Bool) (A : Option Addr) (n c : Nat) (bs : List Int) (d : Int) (w : World) (h : RoadAt B gr now put v L w) (hL : L.length < 4096) (hs : sendB addr d n = true) (hB : B ≤ w.heap.size) (hr : ReadI w .u8 A bs) (hn : n = bs.length) (hp0 : 0 ≤ put) (hp1 : put < 1000000000) (hw0 : 0 ≤ now) (hw1 : now < 1000000000) :
    Calls Try.prog 12 #[.pointer (some ⟨gr, 0, none⟩), gramV addr down A n c, .int .i64 d] w fun e w' => e = .returned (.int .i64 0) ∧ RAdded B gr now put v L ⟨now + d, put, addr, down, bs⟩ w w' := by
  obtain ⟨h1, h2, h3, h4, h5⟩ := send_parts hs
  have t1 : decide (d < 1) = false := decide_eq_false (by omega)
  have t2 : decide (64 < d) = false := decide_eq_false (by omega)
  have t3 : decide (542 < (n : Int)) = false := decide_eq_false (by omega)
  have t4 : decide (addr < 0) = false := decide_eq_false (by omega)
  have t5 : decide (255 < addr) = false := decide_eq_false (by omega)
  have HH := Lib.hid h
  have ez : IntKind.i64.wrap (now + d) = now + d := IntWalk.i64_in _ (by omega)
  have hA : ∀ W (hb : Below w.heap.size w W), Calls Try.prog 28 #[.pointer (some ⟨gr, 0, none⟩), .int .i64 (IntKind.i64.wrap (now + d)), gramV addr down A n c] W fun e w' => e = .returned (.tuple #[]) ∧ RAdded B gr now put v L ⟨now + d, put, addr, down, bs⟩ w w' := by
    rw [ez]
    intro W hb
    exact (add_any B gr now put v L (now + d) addr down A n c bs W (h.under hb) (by omega) (by have := hb.size; omega) (hr.under hb) hn (by omega) hp0 hp1).mono (fun e w' hh => ⟨hh.1, RAdded.from hb hh.2⟩)
  have HA := Lib.hid hA
  clear ez hA
  obtain ⟨A0, c0, rfl, _, _⟩ := OwnR.form h.fly.own
  have c2 : w.cell? ⟨gr, 2, none⟩ = some (.slice A0 L.length c0) := h.fly.blk.cell 2
  have c0' : w.cell? ⟨gr, 0, none⟩ = some (.int .i64 now) := h.fly.blk.cell 0
  have lt := h.lt
  clear h hs hr hn
  go_enter Try.func12, Try.ntmps12
  go_upto_region 5 with (fail)
  go_region_law (first
    | (go_simp; go_at_call 28; refine (HA.out _ (below_drew (below_alloc (Below.refl w.heap.size w) _))).mono ?_; rintro e w1 ⟨rfl, hR⟩; have HR := Lib.hid hR; clear hR))
  all_goals
    go_wp2_with fail
    go_ret
    exact ⟨rfl, HR.out⟩
end Go.Proofs.Ytkodmoeohffjhaa
