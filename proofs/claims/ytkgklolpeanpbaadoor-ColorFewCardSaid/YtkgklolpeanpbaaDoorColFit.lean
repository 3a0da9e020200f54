/- The walks of the document's own colour parts. -/
import Derived.Test.YtkgklolpeanpbaaDoorColNear
import Derived.Deep.DeepCutAuto
import Derived.Laws.Tables
namespace Go.Proofs.YtkgklolpeanpbaaDoor
open Go.RowKit
set_option linter.unusedVariables false
set_option linter.unusedSimpArgs false

def RParted (c : Int) (w : World) (e : Ending) (w' : World) : Prop :=
  e = .returned (.tuple #[.agg #[.int .i64 (Col.part 0 c), .int .i64 (Col.part 1 c), .int .i64 (Col.part 2 c)], .bool (Col.ok c)]) ∧ Below w.heap.size w w'
theorem ret_rparts {c r g b : Int} {o : Bool} {w w' : World} (hr : Col.part 0 c = r) (hg : Col.part 1 c = g) (hb : Col.part 2 c = b) (ho : Col.ok c = o) (hw : Below w.heap.size w w') :
    RParted c w (.returned (.tuple #[.agg #[.int .i64 r, .int .i64 g, .int .i64 b], .bool o])) w' := ⟨by rw [hr, hg, hb, ho], hw⟩

def flatTab : Array Value := (Col.tab.flatten.map (Value.int .i64)).toArray
theorem flat_at : ∀ i, i < 16 → ∀ k, k < 3 → Col.tab.flatten[i * 3 + k]? = some ((Col.tab.getD i []).getD k 0) := by decide
def zeros48 : Array Value := (List.replicate 48 (Value.int .i64 0)).toArray
set_option maxRecDepth 100000 in
theorem rparts_lo (c : Int) (hc : 1 ≤ c) (hc2 : c ≤ 16) (w : World) (r g b : Int) (hz : (c == 0) = false) (hm : Col.may c = true) (ho : Col.ok c = true) (e0 : Col.part 0 c = r) (e1 : Col.part 1 c = g) (e2 : Col.part 2 c = b)
    (h0 : flatTab[(c.toNat - 1) * 3]? = some (.int .i64 r)) (h1 : flatTab[(c.toNat - 1) * 3 + 1]? = some (.int .i64 g)) (h2 : flatTab[(c.toNat - 1) * 3 + 2]? = some (.int .i64 b)) :
    Calls Tryd.prog 9 #[.int .u32 c] w (RParted c w) := by
  have E0 := Lib.hid e0
  have E1 := Lib.hid e1
  have E2 := Lib.hid e2
  clear e0 e1 e2
  go_enter Tryd.func9, Tryd.ntmps9
  go_upto_region 11 with (go_at_call 20; refine (rmay_any _ _).mono ?_; rintro e w' ⟨rfl, rfl⟩)
  go_cut [6] (fun s6 wx => ∃ w1 : World, w1 = w.alloc (.cells #[.int .i64 0, .int .i64 0, .int .i64 0] 26) ∧ s6 = .pointer (some ⟨w1.heap.size, 0, none⟩) ∧ wx = w1.alloc (.cells flatTab 43))
  case first =>
    generalize hw1 : w.alloc (.cells #[.int .i64 0, .int .i64 0, .int .i64 0] 26) = w1
    apply wp_region_lit
    refine wpList_val rfl (.agg #[.int .i64 0, .int .i64 0, .int .i64 0]) w1 (by kernel_rfl) ?_
    refine wpList_val rfl (.agg #[.int .i64 205, .int .i64 0, .int .i64 0]) w1 (by kernel_rfl) ?_
    refine wpList_val rfl (.agg #[.int .i64 0, .int .i64 205, .int .i64 0]) w1 (by kernel_rfl) ?_
    refine wpList_val rfl (.agg #[.int .i64 205, .int .i64 205, .int .i64 0]) w1 (by kernel_rfl) ?_
    refine wpList_val rfl (.agg #[.int .i64 0, .int .i64 0, .int .i64 238]) w1 (by kernel_rfl) ?_
    refine wpList_val rfl (.agg #[.int .i64 205, .int .i64 0, .int .i64 205]) w1 (by kernel_rfl) ?_
    refine wpList_val rfl (.agg #[.int .i64 0, .int .i64 205, .int .i64 205]) w1 (by kernel_rfl) ?_
    refine wpList_val rfl (.agg #[.int .i64 229, .int .i64 229, .int .i64 229]) w1 (by kernel_rfl) ?_
    refine wpList_val rfl (.agg #[.int .i64 127, .int .i64 127, .int .i64 127]) w1 (by kernel_rfl) ?_
    refine wpList_val rfl (.agg #[.int .i64 255, .int .i64 0, .int .i64 0]) w1 (by kernel_rfl) ?_
    refine wpList_val rfl (.agg #[.int .i64 0, .int .i64 255, .int .i64 0]) w1 (by kernel_rfl) ?_
    refine wpList_val rfl (.agg #[.int .i64 255, .int .i64 255, .int .i64 0]) w1 (by kernel_rfl) ?_
    refine wpList_val rfl (.agg #[.int .i64 92, .int .i64 92, .int .i64 255]) w1 (by kernel_rfl) ?_
    refine wpList_val rfl (.agg #[.int .i64 255, .int .i64 0, .int .i64 255]) w1 (by kernel_rfl) ?_
    refine wpList_val rfl (.agg #[.int .i64 0, .int .i64 255, .int .i64 255]) w1 (by kernel_rfl) ?_
    refine wpList_val rfl (.agg #[.int .i64 255, .int .i64 255, .int .i64 255]) w1 (by kernel_rfl) ?_
    refine wpList_val rfl (.agg flatTab) w1 (by kernel_rfl) ?_
    refine wpList_val rfl (.pointer (some ⟨w1.heap.size, 0, none⟩)) (w1.alloc (.cells zeros48 43)) (by kernel_rfl) ?_
    refine wpList_store_new w1 rfl 43 _ _ rfl flatTab (by kernel_rfl) (by kernel_rfl) 43 zeros48 (by kernel_rfl) (by kernel_rfl) (by kernel_rfl) ?_
    refine wpList_nil ?_
    simp only [Act.put, List.setIfInBounds_toArray, List.set_cons_succ, List.set_cons_zero]
    rename_i J K' hJ hK
    refine hK _ _ (Met.intro (hJ _ _ ?_))
    (repeat apply Exists.intro)
    exact ⟨⟨w1, hw1.symm, rfl, rfl⟩, rfl⟩
  case rest =>
    obtain ⟨w1, rfl, rfl, rfl⟩ := hcut
    go_wp2
    exact bodyPost_ret (v := .tuple #[.agg #[.int .i64 r, .int .i64 g, .int .i64 b], .bool true]) (by simp [results, Tryd.results9, go_sem]) rfl
      (ret_rparts E0.out E1.out E2.out ho (((Below.refl _ _).alloc (Nat.le_refl _) _).alloc (by simp) _))

theorem rparts_rgb (c : Int) (hc : 16777216 ≤ c) (hc2 : c < 33554432) (w : World) (hm : Col.may c = true) (ho : Col.ok c = true)
    (e0 : Col.part 0 c = (c - 16777216) / 65536) (e1 : Col.part 1 c = (c - 16777216) / 256 % 256) (e2 : Col.part 2 c = (c - 16777216) % 256) :
    Calls Tryd.prog 9 #[.int .u32 c] w (RParted c w) := by
  have E0 := Lib.hid e0
  have E1 := Lib.hid e1
  have E2 := Lib.hid e2
  clear e0 e1 e2
  have hz : (c == 0) = false := beq_eq_false_iff_ne.2 (by omega)
  go_enter Tryd.func9, Tryd.ntmps9
  go_wp2_with (go_at_call 20; refine (rmay_any _ _).mono ?_; rintro e w' ⟨rfl, rfl⟩)
  exact bodyPost_ret (v := .tuple #[.agg #[.int .i64 ((c - 16777216) / 65536), .int .i64 ((c - 16777216) / 256 % 256), .int .i64 ((c - 16777216) % 256)], .bool true]) (by simp [results, Tryd.results9, go_sem]) rfl
    (ret_rparts E0.out E1.out E2.out ho ((Below.refl _ _).alloc (Nat.le_refl _) _))
theorem rparts_hi (c : Int) (hc : 233 ≤ c) (hc2 : c ≤ 256) (w : World) (hm : Col.may c = true) (ho : Col.ok c = true)
    (e0 : Col.part 0 c = 10 * (c - 1) - 2312) (e1 : Col.part 1 c = 10 * (c - 1) - 2312) (e2 : Col.part 2 c = 10 * (c - 1) - 2312) :
    Calls Tryd.prog 9 #[.int .u32 c] w (RParted c w) := by
  have E0 := Lib.hid e0
  have E1 := Lib.hid e1
  have E2 := Lib.hid e2
  clear e0 e1 e2
  have hz : (c == 0) = false := beq_eq_false_iff_ne.2 (by omega)
  go_enter Tryd.func9, Tryd.ntmps9
  go_wp2_with (go_at_call 20; refine (rmay_any _ _).mono ?_; rintro e w' ⟨rfl, rfl⟩)
  exact bodyPost_ret (v := .tuple #[.agg #[.int .i64 (10 * (c - 1) - 2312), .int .i64 (10 * (c - 1) - 2312), .int .i64 (10 * (c - 1) - 2312)], .bool true]) (by simp [results, Tryd.results9, go_sem]) rfl
    (ret_rparts E0.out E1.out E2.out ho ((Below.refl _ _).alloc (Nat.le_refl _) _))
theorem rparts_mid (c : Int) (hc : 17 ≤ c) (hc2 : c < 233) (w : World) (hm : Col.may c = true) (ho : Col.ok c = true)
    (e0 : Col.part 0 c = Col.lev ((c - 1 - 16) / 36)) (e1 : Col.part 1 c = Col.lev ((c - 1 - 16) / 6 % 6)) (e2 : Col.part 2 c = Col.lev ((c - 1 - 16) % 6)) :
    Calls Tryd.prog 9 #[.int .u32 c] w (RParted c w) := by
  have E0 := Lib.hid e0
  have E1 := Lib.hid e1
  have E2 := Lib.hid e2
  clear e0 e1 e2
  have hz : (c == 0) = false := beq_eq_false_iff_ne.2 (by omega)
  go_enter Tryd.func9, Tryd.ntmps9
  go_wp2_with (first | (go_at_call 20; refine (rmay_any _ _).mono ?_; rintro e w' ⟨rfl, rfl⟩) | (go_at_call 21; refine (level_any _ (by omega) (by omega) _).mono ?_; rintro e w' ⟨rfl, rfl⟩))
  exact bodyPost_ret (v := .tuple #[.agg #[.int .i64 (Col.lev ((c - 1 - 16) / 36)), .int .i64 (Col.lev ((c - 1 - 16) / 6 % 6)), .int .i64 (Col.lev ((c - 1 - 16) % 6))], .bool true]) (by simp [results, Tryd.results9, go_sem]) rfl
    (ret_rparts E0.out E1.out E2.out ho ((Below.refl _ _).alloc (Nat.le_refl _) _))
theorem rparts_no (c : Int) (w : World) (ho : Col.ok c = false) :
    Calls Tryd.prog 9 #[.int .u32 c] w (RParted c w) := by
  have e : ∀ k, Col.part k c = 0 := fun k => by unfold Col.part; rw [if_pos ho]
  have E := Lib.hid e
  clear e
  by_cases h : c = 0
  · subst h
    go_enter Tryd.func9, Tryd.ntmps9
    go_wp2
    exact bodyPost_ret (v := .tuple #[.agg #[.int .i64 0, .int .i64 0, .int .i64 0], .bool false]) (by simp [results, Tryd.results9, go_sem]) rfl
      (ret_rparts (E.out 0) (E.out 1) (E.out 2) ho ((Below.refl _ _).alloc (Nat.le_refl _) _))
  · have hm : Col.may c = false := by simpa [Col.ok, h] using ho
    have h' : (c == 0) = false := by simpa using h
    clear h
    go_enter Tryd.func9, Tryd.ntmps9
    go_wp2_with (go_at_call 20; refine (rmay_any _ _).mono ?_; rintro e w' ⟨rfl, rfl⟩)
    exact bodyPost_ret (v := .tuple #[.agg #[.int .i64 0, .int .i64 0, .int .i64 0], .bool false]) (by simp [results, Tryd.results9, go_sem]) rfl
      (ret_rparts (E.out 0) (E.out 1) (E.out 2) ho ((Below.refl _ _).alloc (Nat.le_refl _) _))

/-- The document's Parts, of any number. -/
theorem rparts_any (c : Int) (hc : 0 ≤ c) (w : World) : Calls Tryd.prog 9 #[.int .u32 c] w (RParted c w) := by
  by_cases ho : Col.ok c = true
  · have hm : Col.may c = true := by have := (Col.ok_iff c).1 ho; rw [Col.may_iff]; exact this.2
    have hr := (Col.ok_iff c).1 ho
    by_cases h1 : 16777216 ≤ c
    · refine rparts_rgb c h1 (by omega) w hm ho ?_ ?_ ?_ <;>
        (unfold Col.part; rw [if_neg (by simp [ho]), if_pos h1]; rfl)
    · by_cases h2 : 233 ≤ c
      · refine rparts_hi c h2 (by omega) w hm ho ?_ ?_ ?_ <;>
          (unfold Col.part; rw [if_neg (by simp [ho]), if_neg h1, if_pos h2])
      · by_cases h3 : 17 ≤ c
        · refine rparts_mid c h3 (by omega) w hm ho ?_ ?_ ?_ <;>
            (unfold Col.part; rw [if_neg (by simp [ho]), if_neg h1, if_neg h2, if_pos h3]; simp only; congr 1; omega)
        · have e := fun k hk => tab_at (c.toNat - 1) k (by omega) hk c (by omega)
          have fl := fun k (hk : k < 3) => (show flatTab[(c.toNat - 1) * 3 + k]? = some (.int .i64 ((Col.tab.getD (c.toNat - 1) []).getD k 0)) by
            have := flat_at (c.toNat - 1) (by omega) k hk
            unfold flatTab
            simp only [List.getElem?_toArray, List.getElem?_map, this, Option.map_some])
          exact rparts_lo c (by omega) (by omega) w _ _ _ (beq_eq_false_iff_ne.2 (by omega)) hm ho (e 0 (by omega)) (e 1 (by omega)) (e 2 (by omega)) (fl 0 (by omega)) (fl 1 (by omega)) (fl 2 (by omega))
  · exact rparts_no c w (by simpa using ho)
end Go.Proofs.YtkgklolpeanpbaaDoor
