/- The walks of the document's May, Encode, whole. -/
import Derived.Test.YtkdmdklmkachfaaDoorUtfRunes
namespace Go.Proofs.YtkdmdklmkachfaaDoor
open Go.RowKit
open Utf (DS)
set_option linter.unusedVariables false
set_option linter.unusedSimpArgs false

theorem rmay_any (r : Int) (w : World) : Calls Tryd.prog 26 #[.int .i32 r] w fun e w' => e = .returned (.bool (Utf.may r)) ∧ w = w' := by
  go_enter Tryd.func26, Tryd.ntmps26
  go_wp2
  all_goals (go_ret; exact ⟨ret_bool (by rw [Bool.eq_iff_iff]; simp [Utf.may]; omega), rfl⟩)

theorem new_of_lit {w w' : World} {e : TypeId} {k : IntKind} {zs ys : List Int} {n : Nat} {cs : Array Value} (h : zs = ys) (hn : n = ys.length) (hc : cs = (ys.map (Value.int k)).toArray) (hm : ys.length ≤ maxLen) (hw : w' = w.alloc (.cells cs e)) :
    NewInts e k w zs (.returned (.slice (some ⟨w.heap.size, 0, none⟩) n n)) w' := by
  subst h hn hw
  exact ⟨_, _, rfl, OwnI.lit w w.heap.size e k zs cs hc (Nat.le_refl _) hm, (Below.refl _ _).alloc (Nat.le_refl _) _⟩

theorem renc_may (r : Int) (w : World) (hm : Utf.may r = true) : Calls Tryd.prog 25 #[.int .i32 r] w (NewInts 5 .u8 w (Utf.enc r)) := by
  have hr := (Utf.may_iff r).1 hm
  have hr0 : 0 ≤ r := by omega
  have hr1 : r ≤ 1114111 := by omega
  have he : Utf.enc r = Utf.enc1 r := by unfold Utf.enc; rw [if_pos hm]
  clear hr
  rcases (show (r < 128) ∨ (128 ≤ r ∧ r < 2048) ∨ (2048 ≤ r ∧ r < 65536) ∨ (65536 ≤ r) by omega) with h | h | h | h
  · have e : Utf.enc r = [r] := by rw [he]; unfold Utf.enc1; rw [if_pos h]
    have E := Lib.hid e
    clear e he
    skip
    go_enter Tryd.func25, Tryd.ntmps25
    go_wp2_with (go_at_call 26; refine (rmay_any _ _).mono ?_; rintro e w' ⟨rfl, rfl⟩)
    go_ret
    exact new_of_lit E.out rfl rfl (by simp [maxLen]) rfl
  · have e : Utf.enc r = [192 + r / 64, 128 + r % 64] := by rw [he]; unfold Utf.enc1; rw [if_neg (by omega), if_pos (by omega)]
    have E := Lib.hid e
    clear e he
    obtain ⟨h1, h2⟩ := h
    go_enter Tryd.func25, Tryd.ntmps25
    go_wp2_with (go_at_call 26; refine (rmay_any _ _).mono ?_; rintro e w' ⟨rfl, rfl⟩)
    go_ret
    exact new_of_lit E.out rfl rfl (by simp [maxLen]) rfl
  · have e : Utf.enc r = [224 + r / 4096, 128 + r / 64 % 64, 128 + r % 64] := by rw [he]; unfold Utf.enc1; rw [if_neg (by omega), if_neg (by omega), if_pos (by omega)]
    have E := Lib.hid e
    clear e he
    obtain ⟨h1, h2⟩ := h
    go_enter Tryd.func25, Tryd.ntmps25
    go_wp2_with (go_at_call 26; refine (rmay_any _ _).mono ?_; rintro e w' ⟨rfl, rfl⟩)
    go_ret
    exact new_of_lit E.out rfl rfl (by simp [maxLen]) rfl
  · have e : Utf.enc r = [240 + r / 262144, 128 + r / 4096 % 64, 128 + r / 64 % 64, 128 + r % 64] := by rw [he]; unfold Utf.enc1; rw [if_neg (by omega), if_neg (by omega), if_neg (by omega)]
    have E := Lib.hid e
    clear e he
    skip
    go_enter Tryd.func25, Tryd.ntmps25
    go_wp2_with (go_at_call 26; refine (rmay_any _ _).mono ?_; rintro e w' ⟨rfl, rfl⟩)
    go_ret
    exact new_of_lit E.out rfl rfl (by simp [maxLen]) rfl
theorem renc_not (r : Int) (w : World) (hm : Utf.may r = false) : Calls Tryd.prog 25 #[.int .i32 r] w (NewInts 5 .u8 w (Utf.enc r)) := by
  have e : Utf.enc r = [239, 191, 189] := by unfold Utf.enc; rw [if_neg (by simp [hm])]; rfl
  have E := Lib.hid e
  clear e
  go_enter Tryd.func25, Tryd.ntmps25
  go_wp2_with (go_at_call 26; refine (rmay_any _ _).mono ?_; rintro e w' ⟨rfl, rfl⟩)
  go_ret
  exact new_of_lit E.out rfl rfl (by simp [maxLen]) rfl
theorem renc_any (r : Int) (w : World) : Calls Tryd.prog 25 #[.int .i32 r] w (NewInts 5 .u8 w (Utf.enc r)) := by
  cases hm : Utf.may r
  · exact renc_not r w hm
  · exact renc_may r w hm

def Wholed (x : List Int) (w : World) (e : Ending) (w' : World) : Prop := e = .returned (.tuple #[.int .i32 (Utf.wholeN x), .bool (Utf.wholeB x)]) ∧ Below w.heap.size w w'
theorem wholed_no {x : List Int} {w w' : World} (h : Utf.wholeB x = false) (hb : Below w.heap.size w w') : Wholed x w (.returned (.tuple #[.int .i32 0, .bool false])) w' := by
  refine ⟨?_, hb⟩
  have : Utf.wholeN x = 0 := by unfold Utf.wholeN; rw [if_neg (by simp [h])]
  rw [this, h]
theorem wholed_yes {x : List Int} {w w' : World} {n : Int} (h : Utf.wholeB x = true) (hn : n = Utf.num x) (hb : Below w.heap.size w w') : Wholed x w (.returned (.tuple #[.int .i32 n, .bool true])) w' := by
  refine ⟨?_, hb⟩
  rw [Utf.wholeN_of x h, h, hn]
theorem whole_parts (x : List Int) : Utf.wholeB x = true ↔ 0 ≤ Utf.num x ∧ Utf.num x ≤ 1114111 ∧ Utf.may (Utf.num x) = true ∧ Utf.enc (Utf.num x) = x := by
  unfold Utf.wholeB
  simp only [Bool.and_eq_true, decide_eq_true_eq, beq_iff_eq]
  constructor
  · rintro ⟨⟨⟨h1, h2⟩, h3⟩, h4⟩
    exact ⟨h1, h2, h3, h4⟩
  · rintro ⟨h1, h2, h3, h4⟩
    exact ⟨⟨⟨h1, h2⟩, h3⟩, h4⟩
theorem whole_no {x : List Int} (h : ¬ (0 ≤ Utf.num x ∧ Utf.num x ≤ 1114111 ∧ Utf.may (Utf.num x) = true ∧ Utf.enc (Utf.num x) = x)) : Utf.wholeB x = false := by
  cases hw : Utf.wholeB x
  · rfl
  · exact absurd ((whole_parts x).1 hw) h
theorem enc_len (r : Int) : (Utf.enc r).length ≤ 4 := by
  unfold Utf.enc Utf.enc1
  repeat' split
  all_goals simp

set_option maxRecDepth 100000 in
theorem whole_1 (A : Option Addr) (cp : Nat) (a : Int) (ha : Utf.Byte a) (w : World) (hx : ReadI w .u8 A [a]) :
    Calls Tryd.prog 27 #[.slice A 1 cp] w (Wholed [a] w) := by
  obtain ⟨b0, o0, rfl, hc⟩ := hx (by simp)
  have c0 : w.cell? ⟨b0, o0, none⟩ = some (.int .u8 a) := hc 0 (by simp)
  clear hc
  have hnum : Utf.num [a] = a := rfl
  have HN := Lib.hid hnum
  clear hnum
  obtain ⟨a0, a1⟩ := ha
  rcases Int.lt_or_le a 0 with g1 | g1
  case inl =>
    have hw := Lib.hid (whole_no (x := [a]) (by rw [HN.out]; omega))
    have t1 : decide (a < 0) = true := decide_eq_true g1
    go_enter Tryd.func27, Tryd.ntmps27
    go_wp2_with fail
    go_ret2
    exact wholed_no hw.out (Below.refl _ _)
  rcases Int.lt_or_le 1114111 a with g2 | g2
  case inr.inl =>
    have hw := Lib.hid (whole_no (x := [a]) (by rw [HN.out]; omega))
    have t1 : decide (a < 0) = false := decide_eq_false (by omega)
    have t2 : decide (1114111 < a) = true := decide_eq_true g2
    go_enter Tryd.func27, Tryd.ntmps27
    go_wp2_with fail
    go_ret2
    exact wholed_no hw.out (Below.refl _ _)
  case inr.inr =>
    have t1 : decide (a < 0) = false := decide_eq_false (by omega)
    have t2 : decide (1114111 < a) = false := decide_eq_false (by omega)
    have hel := enc_len a
    go_enter Tryd.func27, Tryd.ntmps27
    go_wp2_with fail
    refine (renc_any a _).mono ?_
    rintro e w1 ⟨A1, c1, rfl, ho1, hb1⟩
    have HB : Below w.heap.size w w1 := hb1
    have hr1 := ho1.read
    have hx1 := hx.under HB
    go_wp2_with fail
    refine (rmay_any _ _).mono ?_
    rintro e w1' ⟨rfl, rfl⟩
    cases hm : Utf.may a
    case false =>
      have hw := Lib.hid (whole_no (x := [a]) (by rw [HN.out, hm]; simp))
      go_wp2_with fail
      go_ret2
      exact wholed_no hw.out HB
    case true =>
    by_cases hl : (Utf.enc a).length = 1
    case neg =>
      have hw := Lib.hid (whole_no (x := [a]) (by rw [HN.out]; rintro ⟨_, _, _, e⟩; rw [e] at hl; exact hl rfl))
      have t3 : (((Utf.enc a).length : Int) != 1) = true := by simp; omega
      clear hl
      go_wp2_with fail
      go_ret2
      exact wholed_no hw.out HB
    case pos =>
      have t3 : (((Utf.enc a).length : Int) != 1) = false := by simp; omega
      have HL := Lib.hid hl
      have l1 : (Utf.enc a).length ≤ 1 := by omega
      have l2 : 1 ≤ (Utf.enc a).length := by omega
      clear hl ho1 hb1
      go_wp2_with fail
      go_loopw [100] (fun i wr => ∃ k m : Nat, k ≤ 1 ∧ i = .int .i64 k ∧ (Utf.enc a).take k = ([a] : List Int).take k ∧ wr = w1.drewN m) (fun i _ => 1 - (intOf i).toNat)
      case atStart => exact ⟨0, 0, by omega, rfl, rfl, rfl⟩
      case round =>
        obtain ⟨k, m, hk, rfl, ht, rfl⟩ := hrel
        have HT := Lib.hid ht
        clear ht
        by_cases hlt : k < 1
        · have hk1 : k < (Utf.enc a).length := by omega
          obtain ⟨b1, o1, rfl, hc1⟩ := hr1 (by intro e; rw [e] at l2; simp at l2)
          obtain ⟨b2, o2, e2, hc2⟩ := hx1 (by simp)
          injection e2 with e2
          injection e2 with e21 e22
          subst e21 e22
          have d1 := hc1 k hk1
          have d2 := hc2 k hlt
          obtain ⟨x, hxk⟩ : ∃ x, x = (Utf.enc a).getD k 0 := ⟨_, rfl⟩
          obtain ⟨y, hyk⟩ : ∃ y, y = ([a] : List Int).getD k 0 := ⟨_, rfl⟩
          rw [← hxk] at d1
          rw [← hyk] at d2
          have HX := Lib.hid hxk
          have HY := Lib.hid hyk
          clear hxk hyk hc1 hc2 hx hx1 hr1
          have i1 : (k : Int) < ((Utf.enc a).length : Int) := by omega
          have i2 : (k : Int) < 1 := by omega
          by_cases hxy : x = y
          · have u1 : (x != y) = false := by simp [hxy]
            have hs : (Utf.enc a).take (k + 1) = ([a] : List Int).take (k + 1) := by
              rw [take_succ_getD _ k hk1, take_succ_getD ([a] : List Int) k hlt, HT.out, ← HX.out, ← HY.out, hxy]
            have HS := Lib.hid hs
            clear hs hxy
            go_wp2_with fail
            go_quiet (fail)
            go_wp2_with fail
            go_roundw
            case rel => exact ⟨k + 1, _, by omega, by go_num, HS.out, rfl⟩
            case measure => simp [intOf]; omega
          · have u1 : (x != y) = true := by simp [hxy]
            have hw := Lib.hid (whole_no (x := [a]) (by
              rw [HN.out]
              rintro ⟨_, _, _, e⟩
              have e1 := HX.out
              rw [e] at e1
              exact hxy (e1.trans HY.out.symm)))
            clear hxy
            go_wp2_with fail
            go_quiet (fail)
            go_wp2_with fail
            go_ret2
            exact wholed_no hw.out (below_drewN (below_drewN HB _) _)
        · have hw := Lib.hid ((whole_parts [a]).2 (by
            rw [HN.out]
            have h1 := HT.out
            rw [List.take_of_length_le (by omega), List.take_of_length_le (by simp; omega)] at h1
            exact ⟨g1, g2, hm, h1⟩))
          go_wp2_with fail
          go_ret2
          exact wholed_yes hw.out HN.out.symm (below_drewN HB _)

set_option maxRecDepth 100000 in
theorem whole_2 (A : Option Addr) (cp : Nat) (a : Int) (ha : Utf.Byte a) (b : Int) (hb : Utf.Byte b) (w : World) (hx : ReadI w .u8 A [a, b]) :
    Calls Tryd.prog 27 #[.slice A 2 cp] w (Wholed [a, b] w) := by
  obtain ⟨b0, o0, rfl, hc⟩ := hx (by simp)
  have c0 : w.cell? ⟨b0, o0, none⟩ = some (.int .u8 a) := hc 0 (by simp)
  have c1 : w.cell? ⟨b0, o0 + 1, none⟩ = some (.int .u8 b) := hc 1 (by simp)
  clear hc
  have hnum : Utf.num [a, b] = ((a - 192) * 64 + b - 128) := rfl
  have HN := Lib.hid hnum
  clear hnum
  obtain ⟨a0, a1⟩ := ha
  obtain ⟨b0, b1⟩ := hb
  rcases Int.lt_or_le ((a - 192) * 64 + b - 128) 0 with g1 | g1
  case inl =>
    have hw := Lib.hid (whole_no (x := [a, b]) (by rw [HN.out]; omega))
    have t1 : decide (((a - 192) * 64 + b - 128) < 0) = true := decide_eq_true g1
    go_enter Tryd.func27, Tryd.ntmps27
    go_wp2_with fail
    go_quiet (fail)
    go_wp2_with fail
    go_ret2
    exact wholed_no hw.out (below_drewN (Below.refl _ _) _)
  rcases Int.lt_or_le 1114111 ((a - 192) * 64 + b - 128) with g2 | g2
  case inr.inl =>
    have hw := Lib.hid (whole_no (x := [a, b]) (by rw [HN.out]; omega))
    have t1 : decide (((a - 192) * 64 + b - 128) < 0) = false := decide_eq_false (by omega)
    have t2 : decide (1114111 < ((a - 192) * 64 + b - 128)) = true := decide_eq_true g2
    go_enter Tryd.func27, Tryd.ntmps27
    go_wp2_with fail
    go_quiet (fail)
    go_wp2_with fail
    go_ret2
    exact wholed_no hw.out (below_drewN (Below.refl _ _) _)
  case inr.inr =>
    have t1 : decide (((a - 192) * 64 + b - 128) < 0) = false := decide_eq_false (by omega)
    have t2 : decide (1114111 < ((a - 192) * 64 + b - 128)) = false := decide_eq_false (by omega)
    have hel := enc_len ((a - 192) * 64 + b - 128)
    go_enter Tryd.func27, Tryd.ntmps27
    go_wp2_with fail
    go_quiet (fail)
    go_wp2_with fail
    refine (renc_any ((a - 192) * 64 + b - 128) _).mono ?_
    rintro e w1 ⟨A1, c1, rfl, ho1, hb1⟩
    have HB : Below w.heap.size w w1 := (below_drewN (Below.refl w.heap.size w) nq).trans hb1
    have hr1 := ho1.read
    have hx1 := hx.under HB
    go_wp2_with fail
    refine (rmay_any _ _).mono ?_
    rintro e w1' ⟨rfl, rfl⟩
    cases hm : Utf.may ((a - 192) * 64 + b - 128)
    case false =>
      have hw := Lib.hid (whole_no (x := [a, b]) (by rw [HN.out, hm]; simp))
      go_wp2_with fail
      go_ret2
      exact wholed_no hw.out HB
    case true =>
    by_cases hl : (Utf.enc ((a - 192) * 64 + b - 128)).length = 2
    case neg =>
      have hw := Lib.hid (whole_no (x := [a, b]) (by rw [HN.out]; rintro ⟨_, _, _, e⟩; rw [e] at hl; exact hl rfl))
      have t3 : (((Utf.enc ((a - 192) * 64 + b - 128)).length : Int) != 2) = true := by simp; omega
      clear hl
      go_wp2_with fail
      go_ret2
      exact wholed_no hw.out HB
    case pos =>
      have t3 : (((Utf.enc ((a - 192) * 64 + b - 128)).length : Int) != 2) = false := by simp; omega
      have HL := Lib.hid hl
      have l1 : (Utf.enc ((a - 192) * 64 + b - 128)).length ≤ 2 := by omega
      have l2 : 2 ≤ (Utf.enc ((a - 192) * 64 + b - 128)).length := by omega
      clear hl ho1 hb1
      go_wp2_with fail
      go_loopw [100] (fun i wr => ∃ k m : Nat, k ≤ 2 ∧ i = .int .i64 k ∧ (Utf.enc ((a - 192) * 64 + b - 128)).take k = ([a, b] : List Int).take k ∧ wr = w1.drewN m) (fun i _ => 2 - (intOf i).toNat)
      case atStart => exact ⟨0, 0, by omega, rfl, rfl, rfl⟩
      case round =>
        obtain ⟨k, m, hk, rfl, ht, rfl⟩ := hrel
        have HT := Lib.hid ht
        clear ht
        by_cases hlt : k < 2
        · have hk1 : k < (Utf.enc ((a - 192) * 64 + b - 128)).length := by omega
          obtain ⟨b1, o1, rfl, hc1⟩ := hr1 (by intro e; rw [e] at l2; simp at l2)
          obtain ⟨b2, o2, e2, hc2⟩ := hx1 (by simp)
          injection e2 with e2
          injection e2 with e21 e22
          subst e21 e22
          have d1 := hc1 k hk1
          have d2 := hc2 k hlt
          obtain ⟨x, hxk⟩ : ∃ x, x = (Utf.enc ((a - 192) * 64 + b - 128)).getD k 0 := ⟨_, rfl⟩
          obtain ⟨y, hyk⟩ : ∃ y, y = ([a, b] : List Int).getD k 0 := ⟨_, rfl⟩
          rw [← hxk] at d1
          rw [← hyk] at d2
          have HX := Lib.hid hxk
          have HY := Lib.hid hyk
          clear hxk hyk hc1 hc2 hx hx1 hr1
          have i1 : (k : Int) < ((Utf.enc ((a - 192) * 64 + b - 128)).length : Int) := by omega
          have i2 : (k : Int) < 2 := by omega
          by_cases hxy : x = y
          · have u1 : (x != y) = false := by simp [hxy]
            have hs : (Utf.enc ((a - 192) * 64 + b - 128)).take (k + 1) = ([a, b] : List Int).take (k + 1) := by
              rw [take_succ_getD _ k hk1, take_succ_getD ([a, b] : List Int) k hlt, HT.out, ← HX.out, ← HY.out, hxy]
            have HS := Lib.hid hs
            clear hs hxy
            go_wp2_with fail
            go_quiet (fail)
            go_wp2_with fail
            go_roundw
            case rel => exact ⟨k + 1, _, by omega, by go_num, HS.out, rfl⟩
            case measure => simp [intOf]; omega
          · have u1 : (x != y) = true := by simp [hxy]
            have hw := Lib.hid (whole_no (x := [a, b]) (by
              rw [HN.out]
              rintro ⟨_, _, _, e⟩
              have e1 := HX.out
              rw [e] at e1
              exact hxy (e1.trans HY.out.symm)))
            clear hxy
            go_wp2_with fail
            go_quiet (fail)
            go_wp2_with fail
            go_ret2
            exact wholed_no hw.out (below_drewN (below_drewN HB _) _)
        · have hw := Lib.hid ((whole_parts [a, b]).2 (by
            rw [HN.out]
            have h1 := HT.out
            rw [List.take_of_length_le (by omega), List.take_of_length_le (by simp; omega)] at h1
            exact ⟨g1, g2, hm, h1⟩))
          go_wp2_with fail
          go_ret2
          exact wholed_yes hw.out HN.out.symm (below_drewN HB _)

set_option maxRecDepth 100000 in
theorem whole_3 (A : Option Addr) (cp : Nat) (a : Int) (ha : Utf.Byte a) (b : Int) (hb : Utf.Byte b) (c : Int) (hc : Utf.Byte c) (w : World) (hx : ReadI w .u8 A [a, b, c]) :
    Calls Tryd.prog 27 #[.slice A 3 cp] w (Wholed [a, b, c] w) := by
  obtain ⟨b0, o0, rfl, hc⟩ := hx (by simp)
  have c0 : w.cell? ⟨b0, o0, none⟩ = some (.int .u8 a) := hc 0 (by simp)
  have c1 : w.cell? ⟨b0, o0 + 1, none⟩ = some (.int .u8 b) := hc 1 (by simp)
  have c2 : w.cell? ⟨b0, o0 + 2, none⟩ = some (.int .u8 c) := hc 2 (by simp)
  clear hc
  have hnum : Utf.num [a, b, c] = ((a - 224) * 4096 + (b - 128) * 64 + c - 128) := rfl
  have HN := Lib.hid hnum
  clear hnum
  obtain ⟨a0, a1⟩ := ha
  obtain ⟨b0, b1⟩ := hb
  obtain ⟨c0, c1⟩ := hc
  rcases Int.lt_or_le ((a - 224) * 4096 + (b - 128) * 64 + c - 128) 0 with g1 | g1
  case inl =>
    have hw := Lib.hid (whole_no (x := [a, b, c]) (by rw [HN.out]; omega))
    have t1 : decide (((a - 224) * 4096 + (b - 128) * 64 + c - 128) < 0) = true := decide_eq_true g1
    go_enter Tryd.func27, Tryd.ntmps27
    go_wp2_with fail
    go_quiet (fail)
    go_wp2_with fail
    go_ret2
    exact wholed_no hw.out (below_drewN (Below.refl _ _) _)
  rcases Int.lt_or_le 1114111 ((a - 224) * 4096 + (b - 128) * 64 + c - 128) with g2 | g2
  case inr.inl =>
    have hw := Lib.hid (whole_no (x := [a, b, c]) (by rw [HN.out]; omega))
    have t1 : decide (((a - 224) * 4096 + (b - 128) * 64 + c - 128) < 0) = false := decide_eq_false (by omega)
    have t2 : decide (1114111 < ((a - 224) * 4096 + (b - 128) * 64 + c - 128)) = true := decide_eq_true g2
    go_enter Tryd.func27, Tryd.ntmps27
    go_wp2_with fail
    go_quiet (fail)
    go_wp2_with fail
    go_ret2
    exact wholed_no hw.out (below_drewN (Below.refl _ _) _)
  case inr.inr =>
    have t1 : decide (((a - 224) * 4096 + (b - 128) * 64 + c - 128) < 0) = false := decide_eq_false (by omega)
    have t2 : decide (1114111 < ((a - 224) * 4096 + (b - 128) * 64 + c - 128)) = false := decide_eq_false (by omega)
    have hel := enc_len ((a - 224) * 4096 + (b - 128) * 64 + c - 128)
    go_enter Tryd.func27, Tryd.ntmps27
    go_wp2_with fail
    go_quiet (fail)
    go_wp2_with fail
    refine (renc_any ((a - 224) * 4096 + (b - 128) * 64 + c - 128) _).mono ?_
    rintro e w1 ⟨A1, c1, rfl, ho1, hb1⟩
    have HB : Below w.heap.size w w1 := (below_drewN (Below.refl w.heap.size w) nq).trans hb1
    have hr1 := ho1.read
    have hx1 := hx.under HB
    go_wp2_with fail
    refine (rmay_any _ _).mono ?_
    rintro e w1' ⟨rfl, rfl⟩
    cases hm : Utf.may ((a - 224) * 4096 + (b - 128) * 64 + c - 128)
    case false =>
      have hw := Lib.hid (whole_no (x := [a, b, c]) (by rw [HN.out, hm]; simp))
      go_wp2_with fail
      go_ret2
      exact wholed_no hw.out HB
    case true =>
    by_cases hl : (Utf.enc ((a - 224) * 4096 + (b - 128) * 64 + c - 128)).length = 3
    case neg =>
      have hw := Lib.hid (whole_no (x := [a, b, c]) (by rw [HN.out]; rintro ⟨_, _, _, e⟩; rw [e] at hl; exact hl rfl))
      have t3 : (((Utf.enc ((a - 224) * 4096 + (b - 128) * 64 + c - 128)).length : Int) != 3) = true := by simp; omega
      clear hl
      go_wp2_with fail
      go_ret2
      exact wholed_no hw.out HB
    case pos =>
      have t3 : (((Utf.enc ((a - 224) * 4096 + (b - 128) * 64 + c - 128)).length : Int) != 3) = false := by simp; omega
      have HL := Lib.hid hl
      have l1 : (Utf.enc ((a - 224) * 4096 + (b - 128) * 64 + c - 128)).length ≤ 3 := by omega
      have l2 : 3 ≤ (Utf.enc ((a - 224) * 4096 + (b - 128) * 64 + c - 128)).length := by omega
      clear hl ho1 hb1
      go_wp2_with fail
      go_loopw [100] (fun i wr => ∃ k m : Nat, k ≤ 3 ∧ i = .int .i64 k ∧ (Utf.enc ((a - 224) * 4096 + (b - 128) * 64 + c - 128)).take k = ([a, b, c] : List Int).take k ∧ wr = w1.drewN m) (fun i _ => 3 - (intOf i).toNat)
      case atStart => exact ⟨0, 0, by omega, rfl, rfl, rfl⟩
      case round =>
        obtain ⟨k, m, hk, rfl, ht, rfl⟩ := hrel
        have HT := Lib.hid ht
        clear ht
        by_cases hlt : k < 3
        · have hk1 : k < (Utf.enc ((a - 224) * 4096 + (b - 128) * 64 + c - 128)).length := by omega
          obtain ⟨b1, o1, rfl, hc1⟩ := hr1 (by intro e; rw [e] at l2; simp at l2)
          obtain ⟨b2, o2, e2, hc2⟩ := hx1 (by simp)
          injection e2 with e2
          injection e2 with e21 e22
          subst e21 e22
          have d1 := hc1 k hk1
          have d2 := hc2 k hlt
          obtain ⟨x, hxk⟩ : ∃ x, x = (Utf.enc ((a - 224) * 4096 + (b - 128) * 64 + c - 128)).getD k 0 := ⟨_, rfl⟩
          obtain ⟨y, hyk⟩ : ∃ y, y = ([a, b, c] : List Int).getD k 0 := ⟨_, rfl⟩
          rw [← hxk] at d1
          rw [← hyk] at d2
          have HX := Lib.hid hxk
          have HY := Lib.hid hyk
          clear hxk hyk hc1 hc2 hx hx1 hr1
          have i1 : (k : Int) < ((Utf.enc ((a - 224) * 4096 + (b - 128) * 64 + c - 128)).length : Int) := by omega
          have i2 : (k : Int) < 3 := by omega
          by_cases hxy : x = y
          · have u1 : (x != y) = false := by simp [hxy]
            have hs : (Utf.enc ((a - 224) * 4096 + (b - 128) * 64 + c - 128)).take (k + 1) = ([a, b, c] : List Int).take (k + 1) := by
              rw [take_succ_getD _ k hk1, take_succ_getD ([a, b, c] : List Int) k hlt, HT.out, ← HX.out, ← HY.out, hxy]
            have HS := Lib.hid hs
            clear hs hxy
            go_wp2_with fail
            go_quiet (fail)
            go_wp2_with fail
            go_roundw
            case rel => exact ⟨k + 1, _, by omega, by go_num, HS.out, rfl⟩
            case measure => simp [intOf]; omega
          · have u1 : (x != y) = true := by simp [hxy]
            have hw := Lib.hid (whole_no (x := [a, b, c]) (by
              rw [HN.out]
              rintro ⟨_, _, _, e⟩
              have e1 := HX.out
              rw [e] at e1
              exact hxy (e1.trans HY.out.symm)))
            clear hxy
            go_wp2_with fail
            go_quiet (fail)
            go_wp2_with fail
            go_ret2
            exact wholed_no hw.out (below_drewN (below_drewN HB _) _)
        · have hw := Lib.hid ((whole_parts [a, b, c]).2 (by
            rw [HN.out]
            have h1 := HT.out
            rw [List.take_of_length_le (by omega), List.take_of_length_le (by simp; omega)] at h1
            exact ⟨g1, g2, hm, h1⟩))
          go_wp2_with fail
          go_ret2
          exact wholed_yes hw.out HN.out.symm (below_drewN HB _)

set_option maxRecDepth 100000 in
theorem whole_4 (A : Option Addr) (cp : Nat) (a : Int) (ha : Utf.Byte a) (b : Int) (hb : Utf.Byte b) (c : Int) (hc : Utf.Byte c) (d : Int) (hd : Utf.Byte d) (w : World) (hx : ReadI w .u8 A [a, b, c, d]) :
    Calls Tryd.prog 27 #[.slice A 4 cp] w (Wholed [a, b, c, d] w) := by
  obtain ⟨b0, o0, rfl, hc⟩ := hx (by simp)
  have c0 : w.cell? ⟨b0, o0, none⟩ = some (.int .u8 a) := hc 0 (by simp)
  have c1 : w.cell? ⟨b0, o0 + 1, none⟩ = some (.int .u8 b) := hc 1 (by simp)
  have c2 : w.cell? ⟨b0, o0 + 2, none⟩ = some (.int .u8 c) := hc 2 (by simp)
  have c3 : w.cell? ⟨b0, o0 + 3, none⟩ = some (.int .u8 d) := hc 3 (by simp)
  clear hc
  have hnum : Utf.num [a, b, c, d] = ((a - 240) * 262144 + (b - 128) * 4096 + (c - 128) * 64 + d - 128) := rfl
  have HN := Lib.hid hnum
  clear hnum
  obtain ⟨a0, a1⟩ := ha
  obtain ⟨b0, b1⟩ := hb
  obtain ⟨c0, c1⟩ := hc
  obtain ⟨d0, d1⟩ := hd
  rcases Int.lt_or_le ((a - 240) * 262144 + (b - 128) * 4096 + (c - 128) * 64 + d - 128) 0 with g1 | g1
  case inl =>
    have hw := Lib.hid (whole_no (x := [a, b, c, d]) (by rw [HN.out]; omega))
    have t1 : decide (((a - 240) * 262144 + (b - 128) * 4096 + (c - 128) * 64 + d - 128) < 0) = true := decide_eq_true g1
    go_enter Tryd.func27, Tryd.ntmps27
    go_wp2_with fail
    go_quiet (fail)
    go_wp2_with fail
    go_ret2
    exact wholed_no hw.out (below_drewN (Below.refl _ _) _)
  rcases Int.lt_or_le 1114111 ((a - 240) * 262144 + (b - 128) * 4096 + (c - 128) * 64 + d - 128) with g2 | g2
  case inr.inl =>
    have hw := Lib.hid (whole_no (x := [a, b, c, d]) (by rw [HN.out]; omega))
    have t1 : decide (((a - 240) * 262144 + (b - 128) * 4096 + (c - 128) * 64 + d - 128) < 0) = false := decide_eq_false (by omega)
    have t2 : decide (1114111 < ((a - 240) * 262144 + (b - 128) * 4096 + (c - 128) * 64 + d - 128)) = true := decide_eq_true g2
    go_enter Tryd.func27, Tryd.ntmps27
    go_wp2_with fail
    go_quiet (fail)
    go_wp2_with fail
    go_ret2
    exact wholed_no hw.out (below_drewN (Below.refl _ _) _)
  case inr.inr =>
    have t1 : decide (((a - 240) * 262144 + (b - 128) * 4096 + (c - 128) * 64 + d - 128) < 0) = false := decide_eq_false (by omega)
    have t2 : decide (1114111 < ((a - 240) * 262144 + (b - 128) * 4096 + (c - 128) * 64 + d - 128)) = false := decide_eq_false (by omega)
    have hel := enc_len ((a - 240) * 262144 + (b - 128) * 4096 + (c - 128) * 64 + d - 128)
    go_enter Tryd.func27, Tryd.ntmps27
    go_wp2_with fail
    go_quiet (fail)
    go_wp2_with fail
    refine (renc_any ((a - 240) * 262144 + (b - 128) * 4096 + (c - 128) * 64 + d - 128) _).mono ?_
    rintro e w1 ⟨A1, c1, rfl, ho1, hb1⟩
    have HB : Below w.heap.size w w1 := (below_drewN (Below.refl w.heap.size w) nq).trans hb1
    have hr1 := ho1.read
    have hx1 := hx.under HB
    go_wp2_with fail
    refine (rmay_any _ _).mono ?_
    rintro e w1' ⟨rfl, rfl⟩
    cases hm : Utf.may ((a - 240) * 262144 + (b - 128) * 4096 + (c - 128) * 64 + d - 128)
    case false =>
      have hw := Lib.hid (whole_no (x := [a, b, c, d]) (by rw [HN.out, hm]; simp))
      go_wp2_with fail
      go_ret2
      exact wholed_no hw.out HB
    case true =>
    by_cases hl : (Utf.enc ((a - 240) * 262144 + (b - 128) * 4096 + (c - 128) * 64 + d - 128)).length = 4
    case neg =>
      have hw := Lib.hid (whole_no (x := [a, b, c, d]) (by rw [HN.out]; rintro ⟨_, _, _, e⟩; rw [e] at hl; exact hl rfl))
      have t3 : (((Utf.enc ((a - 240) * 262144 + (b - 128) * 4096 + (c - 128) * 64 + d - 128)).length : Int) != 4) = true := by simp; omega
      clear hl
      go_wp2_with fail
      go_ret2
      exact wholed_no hw.out HB
    case pos =>
      have t3 : (((Utf.enc ((a - 240) * 262144 + (b - 128) * 4096 + (c - 128) * 64 + d - 128)).length : Int) != 4) = false := by simp; omega
      have HL := Lib.hid hl
      have l1 : (Utf.enc ((a - 240) * 262144 + (b - 128) * 4096 + (c - 128) * 64 + d - 128)).length ≤ 4 := by omega
      have l2 : 4 ≤ (Utf.enc ((a - 240) * 262144 + (b - 128) * 4096 + (c - 128) * 64 + d - 128)).length := by omega
      clear hl ho1 hb1
      go_wp2_with fail
      go_loopw [100] (fun i wr => ∃ k m : Nat, k ≤ 4 ∧ i = .int .i64 k ∧ (Utf.enc ((a - 240) * 262144 + (b - 128) * 4096 + (c - 128) * 64 + d - 128)).take k = ([a, b, c, d] : List Int).take k ∧ wr = w1.drewN m) (fun i _ => 4 - (intOf i).toNat)
      case atStart => exact ⟨0, 0, by omega, rfl, rfl, rfl⟩
      case round =>
        obtain ⟨k, m, hk, rfl, ht, rfl⟩ := hrel
        have HT := Lib.hid ht
        clear ht
        by_cases hlt : k < 4
        · have hk1 : k < (Utf.enc ((a - 240) * 262144 + (b - 128) * 4096 + (c - 128) * 64 + d - 128)).length := by omega
          obtain ⟨b1, o1, rfl, hc1⟩ := hr1 (by intro e; rw [e] at l2; simp at l2)
          obtain ⟨b2, o2, e2, hc2⟩ := hx1 (by simp)
          injection e2 with e2
          injection e2 with e21 e22
          subst e21 e22
          have d1 := hc1 k hk1
          have d2 := hc2 k hlt
          obtain ⟨x, hxk⟩ : ∃ x, x = (Utf.enc ((a - 240) * 262144 + (b - 128) * 4096 + (c - 128) * 64 + d - 128)).getD k 0 := ⟨_, rfl⟩
          obtain ⟨y, hyk⟩ : ∃ y, y = ([a, b, c, d] : List Int).getD k 0 := ⟨_, rfl⟩
          rw [← hxk] at d1
          rw [← hyk] at d2
          have HX := Lib.hid hxk
          have HY := Lib.hid hyk
          clear hxk hyk hc1 hc2 hx hx1 hr1
          have i1 : (k : Int) < ((Utf.enc ((a - 240) * 262144 + (b - 128) * 4096 + (c - 128) * 64 + d - 128)).length : Int) := by omega
          have i2 : (k : Int) < 4 := by omega
          by_cases hxy : x = y
          · have u1 : (x != y) = false := by simp [hxy]
            have hs : (Utf.enc ((a - 240) * 262144 + (b - 128) * 4096 + (c - 128) * 64 + d - 128)).take (k + 1) = ([a, b, c, d] : List Int).take (k + 1) := by
              rw [take_succ_getD _ k hk1, take_succ_getD ([a, b, c, d] : List Int) k hlt, HT.out, ← HX.out, ← HY.out, hxy]
            have HS := Lib.hid hs
            clear hs hxy
            go_wp2_with fail
            go_quiet (fail)
            go_wp2_with fail
            go_roundw
            case rel => exact ⟨k + 1, _, by omega, by go_num, HS.out, rfl⟩
            case measure => simp [intOf]; omega
          · have u1 : (x != y) = true := by simp [hxy]
            have hw := Lib.hid (whole_no (x := [a, b, c, d]) (by
              rw [HN.out]
              rintro ⟨_, _, _, e⟩
              have e1 := HX.out
              rw [e] at e1
              exact hxy (e1.trans HY.out.symm)))
            clear hxy
            go_wp2_with fail
            go_quiet (fail)
            go_wp2_with fail
            go_ret2
            exact wholed_no hw.out (below_drewN (below_drewN HB _) _)
        · have hw := Lib.hid ((whole_parts [a, b, c, d]).2 (by
            rw [HN.out]
            have h1 := HT.out
            rw [List.take_of_length_le (by omega), List.take_of_length_le (by simp; omega)] at h1
            exact ⟨g1, g2, hm, h1⟩))
          go_wp2_with fail
          go_ret2
          exact wholed_yes hw.out HN.out.symm (below_drewN HB _)

theorem whole_other (A : Option Addr) (cp : Nat) (n : Nat) (w : World) (x : List Int) (hn : n = x.length) (h1 : n = 0 ∨ 5 ≤ n) (hl : n ≤ 1048576) :
    Calls Tryd.prog 27 #[.slice A n cp] w (Wholed x w) := by
  have hx : Utf.num x = -1 := by
    match x, hn with
    | [], _ => rfl
    | a :: b :: c :: d :: e :: l, _ => rfl
    | [a], hn => simp at hn; omega
    | [a, b], hn => simp at hn; omega
    | [a, b, c], hn => simp at hn; omega
    | [a, b, c, d], hn => simp at hn; omega
  have hw := Lib.hid (whole_no (x := x) (by rw [hx]; omega))
  have t1 : ((n : Int) == 1) = false := beq_eq_false_iff_ne.2 (by omega)
  have t2 : ((n : Int) == 2) = false := beq_eq_false_iff_ne.2 (by omega)
  have t3 : ((n : Int) == 3) = false := beq_eq_false_iff_ne.2 (by omega)
  have t4 : ((n : Int) == 4) = false := beq_eq_false_iff_ne.2 (by omega)
  clear hx h1 hn
  go_enter Tryd.func27, Tryd.ntmps27
  go_wp2_with fail
  go_ret2
  exact wholed_no hw.out (Below.refl _ _)

/-- whole, of any bytes. -/
theorem whole_any (A : Option Addr) (cp : Nat) (x : List Int) (w : World) (hx : ReadI w .u8 A x) (hb : ∀ b ∈ x, Utf.Byte b) (hl : x.length ≤ 1048576) :
    Calls Tryd.prog 27 #[.slice A x.length cp] w (Wholed x w) := by
  match x, hx, hb, hl with
  | [], _, _, hl => exact whole_other A cp 0 w [] rfl (.inl rfl) (by omega)
  | [a], hx, hb, _ => exact whole_1 A cp a (hb a (by simp)) w hx
  | [a, b], hx, hb, _ => exact whole_2 A cp a (hb a (by simp)) b (hb b (by simp)) w hx
  | [a, b, c], hx, hb, _ => exact whole_3 A cp a (hb a (by simp)) b (hb b (by simp)) c (hb c (by simp)) w hx
  | [a, b, c, d], hx, hb, _ => exact whole_4 A cp a (hb a (by simp)) b (hb b (by simp)) c (hb c (by simp)) d (hb d (by simp)) w hx
  | a :: b :: c :: d :: e :: l, _, _, hl => exact whole_other A cp _ w (a :: b :: c :: d :: e :: l) rfl (.inr (by simp)) hl
end Go.Proofs.YtkdmdklmkachfaaDoor
