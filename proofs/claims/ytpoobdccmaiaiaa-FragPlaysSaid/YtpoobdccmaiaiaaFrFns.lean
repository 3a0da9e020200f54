/- The walks of the small functions of the parts: may, the document's May, Copy, Same of bytes. -/
import Derived.Test.YtpoobdccmaiaiaaReg
import Derived.WalkKit
import Derived.WalkSpells
import Derived.BigQuiet
import Derived.BigGuardPart
import Derived.Deep.QuietTactic
import Derived.Lib.Hide
namespace Go.Proofs.Ytpoobdccmaiaiaa
open Go.RowKit
set_option linter.unusedVariables false
set_option linter.unusedSimpArgs false

/-- New memory that holds integers, nothing else turned. -/
def NewInts (e : TypeId) (k : IntKind) (w : World) (zs : List Int) (en : Ending) (w' : World) : Prop :=
  ∃ A c, en = .returned (.slice A zs.length c) ∧ OwnI w' w.heap.size e k (.slice A zs.length c) zs ∧ Below w.heap.size w w'
namespace Frag
/-- May a part be? Its place, how many there are, how many bytes it has. -/
def mayB (ix ct : Int) (n : Nat) : Bool := decide (1 ≤ ct) && decide (ct ≤ 128) && decide (0 ≤ ix) && decide (ix < ct) && decide (n ≤ 448) && (decide (n = 448) || decide (ix = ct - 1))
end Frag
theorem may_any (id ix ct : Int) (A : Option Addr) (n c : Nat) (w : World) (hn : n ≤ 9223372036854775807) :
    Calls Try.prog 16 #[.agg #[.int .u32 id, .int .i64 ix, .int .i64 ct, .slice A n c]] w fun e w' => e = .returned (.bool (Frag.mayB ix ct n)) ∧ Below w.heap.size w w' := by
  go_enter Try.func16, Try.ntmps16
  go_wp2
  all_goals (go_ret; exact ⟨ret_bool (by rw [Bool.eq_iff_iff]; simp [Frag.mayB]; omega), below_alloc (Below.refl _ _) _⟩)
theorem rmay_any (id ix ct : Int) (A : Option Addr) (n c : Nat) (w : World) (hn : n ≤ 9223372036854775807) :
    Calls Try.prog 17 #[.agg #[.int .u32 id, .int .i64 ix, .int .i64 ct, .slice A n c]] w fun e w' => e = .returned (.bool (Frag.mayB ix ct n)) ∧ Below w.heap.size w w' := by
  go_enter Try.func17, Try.ntmps17
  go_wp2
  all_goals (go_ret; exact ⟨ret_bool (by rw [Bool.eq_iff_iff]; simp [Frag.mayB]; omega), below_alloc (Below.refl _ _) _⟩)
theorem copy_any (A : Option Addr) (n c : Nat) (bs : List Int) (w : World) (hn : n = bs.length) (hx : ReadI w .u8 A bs) (hl : bs.length ≤ 1048576) :
    Calls Try.prog 8 #[.slice A n c] w (NewInts 5 .u8 w bs) := by
  subst hn
  have HX := Lib.hid hx
  clear hx
  go_enter Try.func8, Try.ntmps8
  go_wp2_with (first
    | (refine wpList_make_ints _ rfl (.tmp 5) (.tmp 5) 23 5 .u8 1 rfl Try.underlying23 (by kernel_rfl) (by omega) .i64 .i64 bs.length bs.length bs.length rfl rfl rfl rfl (by omega) ?_; intro w2 hrow hbm hszm)
    | (refine wpList_copy_ints _ rfl (.tmp 7) (.tmp 8) 23 5 .u8 rfl Try.underlying23 (by kernel_rfl) w.heap.size bs.length bs.length _ rfl hrow (by simp) A bs.length c bs rfl (HX.out.under hbm) rfl (by simp) ?_; intro w3 hrow3 hg3))
  go_ret
  have e := below_of_only hbm hg3 hbm.size (fun x hx => by injection hx; omega)
  rw [List.drop_replicate, Nat.sub_self, List.replicate_zero, List.append_nil] at hrow3
  exact ⟨_, _, rfl, hrow3.own (Nat.le_refl _) (by simp only [maxLen]; omega), e⟩
theorem sameB_any (A B : Option Addr) (c d : Nat) (xs ys : List Int) (w : World) (hx : ReadI w .u8 A xs) (hy : ReadI w .u8 B ys) (hxl : xs.length ≤ 17592186044415) (hyl : ys.length ≤ 17592186044415) :
    Calls Try.prog 12 #[.slice A xs.length c, .slice B ys.length d] w fun e w' => e = .returned (.bool (decide (xs = ys))) ∧ ∃ m, w' = w.drewN m := by
  by_cases hl : xs.length = ys.length
  · have t0 : ((xs.length : Int) != (ys.length : Int)) = false := by rw [hl]; simp
    have HL := Lib.hid hl
    clear hl
    go_enter Try.func12, Try.ntmps12
    go_wp2_with fail
    go_loopw [13] (fun i wr => ∃ k m : Nat, k ≤ xs.length ∧ i = .int .i64 k ∧ xs.take k = ys.take k ∧ wr = w.drewN m) (fun i _ => xs.length - (intOf i).toNat)
    case atStart => exact ⟨0, 0, by omega, rfl, rfl, rfl⟩
    case round =>
      obtain ⟨k, m, hk, rfl, ht, rfl⟩ := hrel
      have HT := Lib.hid ht
      clear ht
      by_cases hlt : k < xs.length
      · have hky : k < ys.length := by have := HL.out; omega
        obtain ⟨b1, o1, rfl, hc1⟩ := hx (by rintro rfl; simp at hlt)
        obtain ⟨b2, o2, rfl, hc2⟩ := hy (by rintro rfl; simp at hky)
        have c1 := hc1 k hlt
        have c2 := hc2 k hky
        obtain ⟨x, hxk⟩ : ∃ x, x = xs.getD k 0 := ⟨_, rfl⟩
        obtain ⟨y, hyk⟩ : ∃ y, y = ys.getD k 0 := ⟨_, rfl⟩
        rw [← hxk] at c1
        rw [← hyk] at c2
        have HX := Lib.hid hxk
        have HY := Lib.hid hyk
        clear hxk hyk hc1 hc2 hx hy
        have i1 : (k : Int) < (xs.length : Int) := by omega
        have i2 : (k : Int) < (ys.length : Int) := by omega
        by_cases hxy : x = y
        · have t1 : (x != y) = false := by simp [hxy]
          have hs : xs.take (k + 1) = ys.take (k + 1) := by
            rw [List.take_succ_eq_append_getElem hlt, List.take_succ_eq_append_getElem hky, HT.out]
            have e1 := HX.out
            have e2 := HY.out
            simp [List.getD_eq_getElem?_getD, hlt] at e1
            simp [List.getD_eq_getElem?_getD, hky] at e2
            rw [← e1, ← e2, hxy]
          have HS := Lib.hid hs
          clear hs hxy
          go_wp2_with fail
          go_quiet (fail)
          go_wp2_with fail
          go_roundw
          case rel => exact ⟨k + 1, _, by omega, by go_num, HS.out, rfl⟩
          case measure => simp [intOf]; omega
        · have t1 : (x != y) = true := by simp [hxy]
          have hs : decide (xs = ys) = false := by
            apply decide_eq_false
            rintro rfl
            exact hxy (HX.out.trans HY.out.symm)
          have HS := Lib.hid hs
          clear hs hxy
          go_wp2_with fail
          go_quiet (fail)
          go_wp2_with fail
          go_ret
          exact ⟨ret_bool HS.out.symm, _, World.drewN_drewN _ _ _⟩
      · have hs : decide (xs = ys) = true := by
          apply decide_eq_true
          have h1 := HT.out
          have h2 := HL.out
          rwa [List.take_of_length_le (by omega), List.take_of_length_le (by omega)] at h1
        have HS := Lib.hid hs
        clear hs
        go_wp2_with fail
        go_ret
        exact ⟨ret_bool HS.out.symm, m, rfl⟩
  · have t0 : ((xs.length : Int) != (ys.length : Int)) = true := by simp; omega
    have hs : decide (xs = ys) = false := decide_eq_false (fun e => hl (by rw [e]))
    have HS := Lib.hid hs
    clear hs hl
    go_enter Try.func12, Try.ntmps12
    go_wp2_with fail
    go_ret
    exact ⟨ret_bool HS.out.symm, 0, rfl⟩

theorem sameB_dec (A B : Option Addr) (c d n m : Nat) (xs ys : List Int) (w : World) (r : Bool) (hn : n = xs.length) (hm : m = ys.length) (hx : ReadI w .u8 A xs) (hy : ReadI w .u8 B ys) (hxl : xs.length ≤ 17592186044415) (hyl : ys.length ≤ 17592186044415) (he : decide (xs = ys) = r) :
    Calls Try.prog 12 #[.slice A n c, .slice B m d] w fun e w' => e = .returned (.bool r) ∧ Below w.heap.size w w' := by
  subst hn hm he
  refine (sameB_any A B c d xs ys w hx hy hxl hyl).mono ?_
  rintro e w' ⟨rfl, k, rfl⟩
  exact ⟨rfl, below_drewN (Below.refl _ _) k⟩
end Go.Proofs.Ytpoobdccmaiaiaa
