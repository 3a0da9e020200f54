/- fixed walked. -/
import Derived.Test.YtijjnpegokfidaaDoorPaSameA
import Derived.Lib.SlBytesConst
import Derived.Lib.SmallJoins
namespace Go.Proofs.YtijjnpegokfidaaDoor
open Go.RowKit
open Pa
set_option linter.unusedVariables false
set_option linter.unusedSimpArgs false
def fxB : List Int := [27, 91, 63, 50, 53, 104, 27, 91, 59, 53, 72, 27, 93, 48, 59, 97, 7, 27, 91, 49, 24, 65, 27, 91, 49, 13, 109]
def fxA : List TAct := [⟨4, 0, 63, 104, [25], []⟩, ⟨4, 0, 0, 72, [0, 5], []⟩, ⟨5, 0, 0, 0, [], [48, 59, 97]⟩, ⟨1, 65, 0, 0, [], []⟩, ⟨2, 0, 0, 13, [], []⟩, ⟨4, 0, 0, 109, [1], []⟩]
theorem fxB_acts : acts fxB = fxA := by decide +kernel
theorem litU8_read (w : World) (zs : List Int) (cs : Array Value) (hc : cs = (zs.map (Value.int .u8)).toArray) (fr : Nat × Nat) : ReadI (w.alloc (.cells cs 5 fr)) .u8 (some ⟨w.heap.size, 0, none⟩) zs := fun hz => by
  subst hc
  refine ⟨w.heap.size, 0, rfl, fun j hj => ?_⟩
  rw [World.cell?_alloc_mark]
  simp [List.getD_eq_getElem?_getD, hj]
def fxM (n : Nat) : List AE := [(⟨4, 0, 63, 104, [25], []⟩, .slice (some ⟨n, 0, none⟩) 1 1, nilV), (⟨4, 0, 0, 72, [0, 5], []⟩, .slice (some ⟨n + 1, 0, none⟩) 2 2, nilV), (⟨5, 0, 0, 0, [], [48, 59, 97]⟩, nilV, .slice (some ⟨n + 1 + 1, 0, none⟩) 3 3), (⟨1, 65, 0, 0, [], []⟩, nilV, nilV), (⟨2, 0, 0, 13, [], []⟩, nilV, nilV), (⟨4, 0, 0, 109, [1], []⟩, .slice (some ⟨n + 1 + 1 + 1, 0, none⟩) 1 1, nilV)]
theorem litI_read (w : World) (n : Nat) (hn : n = w.heap.size) (e : TypeId) (k : IntKind) (zs : List Int) (cs : Array Value) (hc : cs = (zs.map (Value.int k)).toArray) (fr : Nat × Nat) : ReadI (w.alloc (.cells cs e fr)) k (some ⟨n, 0, none⟩) zs := fun hz => by
  subst hc hn
  refine ⟨w.heap.size, 0, rfl, fun j hj => ?_⟩
  rw [World.cell?_alloc_mark]
  simp [List.getD_eq_getElem?_getD, hj]
theorem ReadI.alloc {w : World} {k : IntKind} {A : Option Addr} {zs : List Int} (h : ReadI w k A zs) (o : Obj) : ReadI (w.alloc o) k A zs := h.under (below_alloc (Below.refl _ _) o)
theorem fxRd (w : World) (cs : Array Value) (hcs : cs = ((fxM w.heap.size).flatMap acell).toArray) :
    RdA (((((w.alloc (.cells #[.int .i64 25] 3)).alloc (.cells #[.int .i64 0, .int .i64 5] 3)).alloc (.cells #[.int .u8 48, .int .u8 59, .int .u8 97] 5 (3, 4))).alloc (.cells #[.int .i64 1] 3)).alloc (.cells cs 25)) (some ⟨w.heap.size + 1 + 1 + 1 + 1, 0, none⟩) (fxM w.heap.size) := by
  have r1 := (((litI_read w w.heap.size rfl 3 .i64 [25] #[.int .i64 25] rfl (0, 0)).alloc (.cells #[.int .i64 0, .int .i64 5] 3)).alloc (.cells #[.int .u8 48, .int .u8 59, .int .u8 97] 5 (3, 4))).alloc (.cells #[.int .i64 1] 3) |>.alloc (.cells cs 25)
  have r2 := (((litI_read (w.alloc (.cells #[.int .i64 25] 3)) (w.heap.size + 1) (by simp) 3 .i64 [0, 5] #[.int .i64 0, .int .i64 5] rfl (0, 0)).alloc (.cells #[.int .u8 48, .int .u8 59, .int .u8 97] 5 (3, 4))).alloc (.cells #[.int .i64 1] 3)).alloc (.cells cs 25)
  have r3 := ((litI_read ((w.alloc (.cells #[.int .i64 25] 3)).alloc (.cells #[.int .i64 0, .int .i64 5] 3)) (w.heap.size + 1 + 1) (by simp) 5 .u8 [48, 59, 97] #[.int .u8 48, .int .u8 59, .int .u8 97] rfl (3, 4)).alloc (.cells #[.int .i64 1] 3)).alloc (.cells cs 25)
  have r4 := (litI_read (((w.alloc (.cells #[.int .i64 25] 3)).alloc (.cells #[.int .i64 0, .int .i64 5] 3)).alloc (.cells #[.int .u8 48, .int .u8 59, .int .u8 97] 5 (3, 4))) (w.heap.size + 1 + 1 + 1) (by simp) 3 .i64 [1] #[.int .i64 1] rfl (0, 0)).alloc (.cells cs 25)
  subst hcs
  refine ⟨?_, fun q hq => ?_, fun q hq => ?_⟩
  · have h := Blk.read (Blk.new ((((w.alloc (.cells #[.int .i64 25] 3)).alloc (.cells #[.int .i64 0, .int .i64 5] 3)).alloc (.cells #[.int .u8 48, .int .u8 59, .int .u8 97] 5 (3, 4))).alloc (.cells #[.int .i64 1] 3)) 25 ((fxM w.heap.size).flatMap acell).toArray)
    rw [show ((((w.alloc (.cells #[.int .i64 25] 3)).alloc (.cells #[.int .i64 0, .int .i64 5] 3)).alloc (.cells #[.int .u8 48, .int .u8 59, .int .u8 97] 5 (3, 4))).alloc (.cells #[.int .i64 1] 3)).heap.size = w.heap.size + 1 + 1 + 1 + 1 by simp] at h
    exact h
  · simp only [fxM, List.mem_cons, List.mem_nil_iff, or_false] at hq
    rcases hq with rfl | rfl | rfl | rfl | rfl | rfl
    · exact ⟨_, _, rfl, r1⟩
    · exact ⟨_, _, rfl, r2⟩
    · exact ⟨none, 0, rfl, ReadI.nil _ _ _⟩
    · exact ⟨none, 0, rfl, ReadI.nil _ _ _⟩
    · exact ⟨none, 0, rfl, ReadI.nil _ _ _⟩
    · exact ⟨_, _, rfl, r4⟩
  · simp only [fxM, List.mem_cons, List.mem_nil_iff, or_false] at hq
    rcases hq with rfl | rfl | rfl | rfl | rfl | rfl
    · exact ⟨none, 0, rfl, ReadI.nil _ _ _⟩
    · exact ⟨none, 0, rfl, ReadI.nil _ _ _⟩
    · exact ⟨_, _, rfl, r3⟩
    · exact ⟨none, 0, rfl, ReadI.nil _ _ _⟩
    · exact ⟨none, 0, rfl, ReadI.nil _ _ _⟩
    · exact ⟨none, 0, rfl, ReadI.nil _ _ _⟩
set_option maxRecDepth 100000 in
set_option maxHeartbeats 2000000 in
theorem pfixed_any (w : World) : Calls Tryd.prog 5 #[] w fun e w' => e = .returned (.bool true) ∧ Below w.heap.size w w' := by
  go_enter Tryd.func5, Tryd.ntmps5
  go_wp2_with fail
  rw [Lib.run_convert_bytes_const w 23 5 _ _ _ Tryd.underlying23 Tryd.underlying5]
  simp only [Result.andThen]
  rw [Oper.upon_value]
  have hown := litU8_read w fxB _ rfl ((fxB.map (Value.int .u8)).toArray.size, (fxB.map (Value.int .u8)).toArray.size + 1)
  have HO := Lib.hid hown
  clear hown
  go_wp2_with fail
  refine (acts_any (some ⟨w.heap.size, 0, none⟩) 27 27 fxB _ rfl HO.out (by decide) (by decide)).mono ?_
  rintro e w1 ⟨A1, c1, L, rfl, hL, hA, hb⟩
  rw [fxB_acts] at hL
  go_wp2_with fail
  rw [Joins.run_convert_bytes_const_at _ 23 5 _ _ _ (w1.heap.size + 1 + 1) (by simp) Tryd.underlying23 Tryd.underlying5]
  simp only [Result.andThen]
  rw [Oper.upon_value]
  go_wp2_with fail
  have hlen : L.length = 6 := by have := congrArg List.length hL; simpa [fxA] using this
  have hokl : ∀ q ∈ L, q.1.params.length ≤ 1000000 ∧ q.1.text.length ≤ 1000000 := by
    have hall : ∀ a ∈ fxA, a.params.length ≤ 1000000 ∧ a.text.length ≤ 1000000 := by decide
    intro q hq
    exact hall q.1 (by rw [← hL]; exact List.mem_map_of_mem hq)
  have bl : ∀ cs, Below w1.heap.size w1 (((((w1.alloc (.cells #[.int .i64 25] 3)).alloc (.cells #[.int .i64 0, .int .i64 5] 3)).alloc (.cells #[.int .u8 48, .int .u8 59, .int .u8 97] 5 (3, 4))).alloc (.cells #[.int .i64 1] 3)).alloc (.cells cs 25)) := fun cs =>
    ((((below_alloc (Below.refl _ _) _).alloc (by simp) _).alloc (by simp; omega) _).alloc (by simp; omega) _).alloc (by simp; omega) _
  refine (sameA_true A1 _ L.length 6 c1 6 L (fxM w1.heap.size) _ rfl hlen.symm ((hA.rd rfl).under (bl _)) (fxRd w1 _ rfl) (by rw [hL]; rfl) hokl (by omega)).mono ?_
  rintro e w2 ⟨rfl, hb2⟩
  have hz : w.heap.size ≤ w1.heap.size := by have := hb.size; simp at this; omega
  have hfin : Below w.heap.size w w2 := ((below_alloc (Below.refl _ _) _).trans (hb.mono (by simp))).trans (((bl _).mono hz).trans (hb2.mono (Nat.le_trans hz (bl _).size)))
  have HFIN := Lib.hid hfin
  clear hfin hb2 hb hA hL hokl bl
  go_wp2_with fail
  go_ret
  exact ⟨rfl, HFIN.out⟩
end Go.Proofs.YtijjnpegokfidaaDoor
