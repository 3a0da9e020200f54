/- Road.add walked. -/
import Derived.Test.YtkodmoeohffjhaaRoRoad
import Derived.Deep.RegionLaw
namespace Go.Proofs.Ytkodmoeohffjhaa
open Go.RowKit Go.Proofs.Ytkodmoeohffjhaa.Hp
set_option linter.unusedVariables false
set_option linter.unusedSimpArgs false

theorem gram_blk {w w1 : World} {t : TypeId} {X : Array Value} (h : Below (w.alloc (.cells X t)).drew.heap.size (w.alloc (.cells X t)).drew w1) : Below w.heap.size w w1 ∧ w.heap.size < w1.heap.size ∧ Blk w1 w.heap.size t X := by
  have hz := h.size
  simp at hz
  exact ⟨(below_drew (below_alloc (Below.refl w.heap.size w) _)).trans (h.mono (by simp)), by omega, (Blk.drew (Blk.new w t X)).under h⟩
set_option maxHeartbeats 2000000 in
set_option maxRecDepth 100000 in
theorem add_any (B gr : Nat) (now put : Int) (v : Value) (L : List ME) (due addr : Int) (down : Bool) (A : Option Addr) (n c : Nat) (bs : List Int) (w : World) (h : RoadAt B gr now put v L w) (hL : L.length < 99999) (hB : B ≤ w.heap.size) (hr : ReadI w .u8 A bs) (hn : n = bs.length) (hl : n ≤ 1000000) (hp0 : 0 ≤ put) (hp1 : put < 1000000000) :
    Calls Try.prog 28 #[.pointer (some ⟨gr, 0, none⟩), .int .i64 due, gramV addr down A n c] w fun e w' => e = .returned (.tuple #[]) ∧ RAdded B gr now put v L ⟨due, put, addr, down, bs⟩ w w' := by
  have hC := fun W (hb : Below w.heap.size w W) => clone_any addr down A n c bs W (hr.under hb) hn hl
  have hP := fun W A' c' (hF : Fly W B gr (.int .i64 now) (.int .i64 put) v L) (hb : w.heap.size ≤ W.heap.size) => hpush_any B gr (.int .i64 now) (.int .i64 put) v L (⟨due, put, addr, down, bs⟩, A', c') W hF (by omega) (by omega) h.base h.heap
  have hlt := h.lt
  have c1 : w.cell? ⟨gr, 1, none⟩ = some (.int .i64 put) := h.fly.blk.cell 1
  have f1 : w.frozen? ⟨gr, 1, none⟩ = false := h.fly.blk.frozen 1
  have HC := Lib.hid hC
  have HP := Lib.hid hP
  have HH := Lib.hid h
  have HN := Lib.hid hn
  clear hC hP h hn hr
  go_enter Try.func28, Try.ntmps28
  go_upto_region 1 with (fail)
  go_region_law (first
    | (go_simp; go_at_call 34; refine (HC.out _ (below_drew (below_alloc (Below.refl w.heap.size w) _))).mono ?_; rintro e w1 ⟨A1, k1, rfl, ho1, hb1⟩; obtain ⟨hb, hz, hX⟩ := gram_blk hb1; have c1' : w1.cell? ⟨gr, 1, none⟩ = some (.int .i64 put) := (hb.cell (p := ⟨gr, 1, none⟩) hlt).trans c1)
    | (go_simp; go_at_call 36; refine (HP.out w1 A1 k1 (HH.out.fly.under hb) hb.size).mono ?_; rintro e w2 ⟨rfl, v2, L2, hp2, hh2, hf2, hk2, hv2⟩; have HR := Lib.hid (radded HH.out hb (OwnI.mono ho1 (by simp)) hp2 hh2 hf2 hk2 hv2); have c2 : w2.cell? ⟨gr, 1, none⟩ = some (.int .i64 put) := hf2.blk.cell 1; have f2 : w2.frozen? ⟨gr, 1, none⟩ = false := hf2.blk.frozen 1))
  all_goals
    clear hp2 hh2 hf2 hk2 hv2 hX hb hb1 ho1 c1 f1
    go_wp2_with fail
    go_end0
    exact ⟨rfl, HR.out⟩
end Go.Proofs.Ytkodmoeohffjhaa
