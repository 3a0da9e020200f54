/- The walk of the document's begins. -/
import Derived.Test.YtkdmdklmkachfaaDoorUtfRef
namespace Go.Proofs.YtkdmdklmkachfaaDoor
open Go.RowKit
open Utf (DS)
set_option linter.unusedVariables false
set_option linter.unusedSimpArgs false

theorem whole_len (A : Option Addr) (n cp : Nat) (x : List Int) (w : World) (hn : n = x.length) (hx : ReadI w .u8 A x) (hb : ∀ b ∈ x, Utf.Byte b) (hl : x.length ≤ 1048576) :
    Calls Tryd.prog 27 #[.slice A n cp] w (Wholed x w) := by
  subst hn
  exact whole_any A cp x w hx hb hl
theorem rep_set (k n : Nat) (p : Int) (hk : k < n) : (List.replicate k p ++ List.replicate (n - k) 0).set k p = List.replicate (k + 1) p ++ List.replicate (n - (k + 1)) 0 := by
  obtain ⟨d, rfl⟩ : ∃ d, n = k + 1 + d := ⟨n - (k + 1), by omega⟩
  rw [show k + 1 + d - k = d + 1 by omega, show k + 1 + d - (k + 1) = d by omega, List.set_append_right _ _ (by simp), List.length_replicate, Nat.sub_self, List.replicate_succ, List.set_cons_zero, List.replicate_succ', List.append_assoc]
  rfl
theorem rep_get (k n : Nat) (p : Int) (hk : k < n) : (List.replicate k p ++ List.replicate (n - k) 0).getD k 0 = 0 := by
  obtain ⟨d, rfl⟩ : ∃ d, n = k + 1 + d := ⟨n - (k + 1), by omega⟩
  rw [show k + 1 + d - k = d + 1 by omega, List.getD_eq_getElem?_getD, List.getElem?_append_right (by simp), List.length_replicate, Nat.sub_self, List.replicate_succ]
  rfl
theorem rep_get2 (k n : Nat) (p q : Int) (hk : k < n) : ((List.replicate k p ++ List.replicate (n - k) 0).set k q).getD k 0 = q := by
  rw [List.getD_eq_getElem?_getD, List.getElem?_set]
  rw [if_pos rfl, if_pos (by simp; omega)]
  rfl
theorem begins_long (x : List Int) (h : 4 ≤ x.length) : Utf.beginsB x = false := by
  match x, h with
  | a :: b :: c :: d :: l, _ => rfl
theorem rep_set2 (k n : Nat) (p q : Int) : ((List.replicate k p ++ List.replicate (n - k) 0).set k q).set k p = (List.replicate k p ++ List.replicate (n - k) 0).set k p := List.set_set ..
theorem rep_len (k n : Nat) (p : Int) (hk : k ≤ n) : (List.replicate k p ++ List.replicate (n - k) (0 : Int)).length = n := by simp; omega
theorem pad_of (l : Nat) (hl : l < 2) : (l = 0 ∧ Utf.pad l = 128) ∨ (l = 1 ∧ Utf.pad l = 191) := by
  unfold Utf.pad
  rcases (show l = 0 ∨ l = 1 by omega) with rfl | rfl
  · exact .inl ⟨rfl, rfl⟩
  · exact .inr ⟨rfl, rfl⟩

theorem begins_more (A : Option Addr) (cp : Nat) (bs : List Int) (w : World) (hx : ReadI w .u8 A bs) (hby : ∀ b ∈ bs, Utf.Byte b) (h1 : 2 ≤ bs.length) (h3 : bs.length ≤ 3) :
    Calls Tryd.prog 28 #[.slice A bs.length cp] w fun e w' => e = .returned (.bool (Utf.beginsB bs)) ∧ Below w.heap.size w w' := by
  have t1 : ((bs.length : Int) == 1) = false := beq_eq_false_iff_ne.2 (by omega)
  go_enter Tryd.func28, Tryd.ntmps28
  go_wp2_with fail
  go_loopw [3] (fun v wr => ∃ n : Nat, bs.length + 1 ≤ n ∧ n ≤ 5 ∧ v = .int .i64 n ∧ (∀ m l, bs.length + 1 ≤ m → m < n → l < 2 → Utf.wholeB (Utf.tryOf bs m l) = false) ∧ Below w.heap.size w wr) (fun v _ => 5 - (intOf v).toNat)
  case atStart => exact ⟨bs.length + 1, by omega, by omega, rfl, fun m l h1 h2 => absurd h2 (by omega), Below.refl _ _⟩
  case round =>
    obtain ⟨n, hn0, hn1, rfl, hf1, hb1⟩ := hrel
    have HF1 := Lib.hid hf1
    clear hf1
    rcases Nat.lt_or_ge 4 n with hn4 | hn4
    · have hw := Lib.hid (Utf.begins_not bs hby h1 h3 (fun m l a b c => HF1.out m l a (by omega) c))
      go_wp2_with fail
      go_ret
      exact ⟨ret_bool hw.out.symm, hb1⟩
    obtain ⟨wo, rfl⟩ : ∃ wo : World, wo = wr := ⟨_, rfl⟩
    have q1 : decide ((n : Int) ≤ 4) = true := decide_eq_true (by omega)
    go_wp2_with fail
    go_loopw [4] (fun v wr => ∃ l : Nat, l ≤ 2 ∧ v = .int .i64 l ∧ (∀ l', l' < l → Utf.wholeB (Utf.tryOf bs n l') = false) ∧ Below w.heap.size w wr) (fun v _ => 2 - (intOf v).toNat)
    case atStart => exact ⟨0, by omega, rfl, fun l' h => absurd h (by omega), hb1⟩
    case round =>
      obtain ⟨l, hl0, rfl, hf2, hb2⟩ := hrel
      have HF2 := Lib.hid hf2
      clear hf2
      rcases Nat.lt_or_ge 1 l with hl2 | hl2
      · have hf3 : ∀ m l, bs.length + 1 ≤ m → m < n + 1 → l < 2 → Utf.wholeB (Utf.tryOf bs m l) = false := fun m l' h1 h2 h3 => by
          rcases Nat.lt_or_ge m n with h | h
          · exact HF1.out m l' h1 h h3
          · obtain rfl : m = n := by omega
            exact HF2.out l' (by omega)
        have HF3 := Lib.hid hf3
        clear hf3
        go_wp2_with fail
        go_roundw
        case rel => exact ⟨n + 1, by omega, by omega, by go_num, HF3.out, hb2⟩
        case measure => simp [intOf]; omega
      have hp := pad_of l (by omega)
      have HP := Lib.hid hp
      clear hp
      go_wp2_with (refine wpList_make_ints _ rfl (.tmp 31) (.tmp 31) 22 5 .u8 1 rfl Tryd.underlying22 (by kernel_rfl) (by omega) .i64 .i64 n n n rfl rfl rfl rfl (by omega) ?_; intro w2 hrow hbm hszm)
      have hg : w.heap.size ≤ wr.heap.size := hb2.size
      have hb3 : Below w.heap.size w w2 := hb2.trans (hbm.mono hb2.size)
      obtain ⟨g, hgg⟩ : ∃ g, g = wr.heap.size := ⟨_, rfl⟩
      rw [← hgg] at hrow hg ⊢
      clear hb2 hbm hszm hgg
      go_loopw [35] (fun v wr => ∃ k : Nat, k ≤ n ∧ v = .int .i64 k ∧ RowI wr g 5 .u8 (List.replicate k (Utf.pad l) ++ List.replicate (n - k) 0) ∧ Below w.heap.size w wr) (fun v _ => n - (intOf v).toNat)
      case atStart => exact ⟨0, by omega, rfl, by simpa using hrow, hb3⟩
      case round =>
        obtain ⟨k, hk, rfl, hrw, hb4⟩ := hrel
        by_cases hlt : k < n
        · have hglt := hrw.lt
          have cc := hrw.cell k (by rw [rep_len k n _ hk]; exact hlt)
          rw [rep_get k n _ hlt] at cc
          have ff := hrw.frozen k
          have i1 : (k : Int) < (n : Int) := by omega
          have r1 := hrw.set_ k 128
          have rs := rep_set k n (Utf.pad l) hlt
          rcases HP.out with ⟨e1, e2⟩ | ⟨e1, e2⟩
          · have u1 : ((l : Int) == 1) = false := by rw [e1]; rfl
            have RS := Lib.hid rs
            have R1 := Lib.hid r1
            have E2 := Lib.hid e2
            clear rs r1 e1 e2
            go_wp2_with fail
            go_roundw
            case rel => exact ⟨k + 1, by omega, by go_num, by rw [← RS.out]; have := R1.out; rw [E2.out] at this ⊢; exact this, hb4.setCell (p := ⟨g, k, none⟩) hg _⟩
            case measure => simp [intOf]; omega
          · have u1 : ((l : Int) == 1) = true := by rw [e1]; rfl
            have c2 := r1.cell k (by rw [List.length_set, rep_len k n _ hk]; exact hlt)
            rw [rep_get2 k n _ _ hlt] at c2
            have f2 := r1.frozen k
            have r2 := r1.set_ k 191
            have RS := Lib.hid rs
            have R2 := Lib.hid r2
            have E2 := Lib.hid e2
            clear rs r1 r2 e1 e2
            go_wp2_with fail
            go_roundw
            case rel => exact ⟨k + 1, by omega, by go_num, by rw [← RS.out]; have := R2.out; rw [E2.out] at this ⊢; rw [List.set_set] at this; exact this, (hb4.setCell (p := ⟨g, k, none⟩) hg _).setCell (p := ⟨g, k, none⟩) hg _⟩
            case measure => simp [intOf]; omega
        · obtain rfl : k = n := by omega
          rw [Nat.sub_self, List.replicate_zero, List.append_nil] at hrw
          have hrx := hx.under (w' := wr) hb4
          have hgl := hrw.lt
          go_wp2_with (refine wpList_copy_ints _ rfl (.tmp 47) (.tmp 48) 22 5 .u8 rfl Tryd.underlying22 (by kernel_rfl) g k k _ rfl hrw (by simp) A bs.length cp bs rfl hrx rfl (by simp; omega) ?_; intro w3 hrow3 hg3)
          have hb5 := below_of_only hb4 hg3 hb4.size (fun x hx => by injection hx; omega)
          clear hrw hrx hg3 hb4
          rw [List.drop_replicate] at hrow3
          have hbyte : ∀ b ∈ bs ++ List.replicate (k - bs.length) (Utf.pad l), Utf.Byte b := fun b hm => by
            rcases List.mem_append.1 hm with h | h
            · exact hby b h
            · rw [(List.mem_replicate.1 h).2]; exact Utf.pad_byte l
          have hlen : k = (bs ++ List.replicate (k - bs.length) (Utf.pad l)).length := by simp; omega
          have HLEN := Lib.hid hlen
          clear hlen
          go_wp2_with fail
          refine (whole_len (some ⟨g, 0, none⟩) k k _ _ HLEN.out hrow3.read hbyte (by have := HLEN.out; omega)).mono ?_
          rintro e w4 ⟨rfl, hb6⟩
          have hb7 : Below w.heap.size w w4 := hb5.trans (hb6.mono hb5.size)
          cases hwb : Utf.wholeB (bs ++ List.replicate (k - bs.length) (Utf.pad l))
          · have hf3 : ∀ l', l' < l + 1 → Utf.wholeB (Utf.tryOf bs k l') = false := fun l' h => by
              rcases Nat.lt_or_ge l' l with h' | h'
              · exact HF2.out l' h'
              · obtain rfl : l' = l := by omega
                exact hwb
            have HF3 := Lib.hid hf3
            clear hf3
            go_wp2_with fail
            go_roundw
            case rel => exact ⟨l + 1, by omega, by go_num, HF3.out, hb7⟩
            case measure => simp [intOf]; omega
          · have hw := Lib.hid (Utf.begins_of bs (List.replicate (k - bs.length) (Utf.pad l)) hby (fun b h => by rw [(List.mem_replicate.1 h).2]; exact Utf.pad_byte l) (by rintro rfl; simp at h1) (by intro e; have := congrArg List.length e; simp at this; omega) hwb)
            go_wp2_with fail
            go_ret
            exact ⟨ret_bool hw.out.symm, hb7⟩

theorem begins_one (A : Option Addr) (cp : Nat) (a : Int) (w : World) (hx : ReadI w .u8 A [a]) (ha : Utf.Byte a) :
    Calls Tryd.prog 28 #[.slice A 1 cp] w fun e w' => e = .returned (.bool (Utf.beginsB [a])) ∧ Below w.heap.size w w' := by
  go_enter Tryd.func28, Tryd.ntmps28
  go_wp2_with fail
  go_loopw [3] (fun v wr => ∃ n : Nat, 2 ≤ n ∧ n ≤ 5 ∧ v = .int .i64 n ∧ (∀ m l, 2 ≤ m → m < n → l < 2 → ∀ s' : Int, 128 ≤ s' → s' ≤ 191 → Utf.wholeB (a :: s' :: List.replicate (m - 2) (Utf.pad l)) = false) ∧ Below w.heap.size w wr) (fun v _ => 5 - (intOf v).toNat)
  case atStart => exact ⟨2, by omega, by omega, rfl, fun m l h1 h2 => absurd h2 (by omega), Below.refl _ _⟩
  case round =>
    obtain ⟨n, hn0, hn1, rfl, hf1, hb1⟩ := hrel
    have HF1 := Lib.hid hf1
    clear hf1
    rcases Nat.lt_or_ge 4 n with hn4 | hn4
    · have hw := Lib.hid (Utf.begins_not1 a ha (fun m l s a b c h1 h2 => HF1.out m l a (by omega) c s h1 h2))
      go_wp2_with fail
      go_ret
      exact ⟨ret_bool hw.out.symm, hb1⟩
    obtain ⟨wo, rfl⟩ : ∃ wo : World, wo = wr := ⟨_, rfl⟩
    have q1 : decide ((n : Int) ≤ 4) = true := decide_eq_true (by omega)
    go_wp2_with fail
    go_loopw [4] (fun v wr => ∃ l : Nat, l ≤ 2 ∧ v = .int .i64 l ∧ (∀ l', l' < l → ∀ s' : Int, 128 ≤ s' → s' ≤ 191 → Utf.wholeB (a :: s' :: List.replicate (n - 2) (Utf.pad l')) = false) ∧ Below w.heap.size w wr) (fun v _ => 2 - (intOf v).toNat)
    case atStart => exact ⟨0, by omega, rfl, fun l' h => absurd h (by omega), hb1⟩
    case round =>
      obtain ⟨l, hl0, rfl, hf2, hb2⟩ := hrel
      have HF2 := Lib.hid hf2
      clear hf2
      rcases Nat.lt_or_ge 1 l with hl2 | hl2
      · have hf3 : ∀ m l, 2 ≤ m → m < n + 1 → l < 2 → ∀ s' : Int, 128 ≤ s' → s' ≤ 191 → Utf.wholeB (a :: s' :: List.replicate (m - 2) (Utf.pad l)) = false := fun m l' h1 h2 h3 => by
          rcases Nat.lt_or_ge m n with h | h
          · exact HF1.out m l' h1 h h3
          · obtain rfl : m = n := by omega
            exact HF2.out l' (by omega)
        have HF3 := Lib.hid hf3
        clear hf3
        go_wp2_with fail
        go_roundw
        case rel => exact ⟨n + 1, by omega, by omega, by go_num, HF3.out, hb2⟩
        case measure => simp [intOf]; omega
      have hp := pad_of l (by omega)
      have HP := Lib.hid hp
      clear hp
      go_wp2_with (refine wpList_make_ints _ rfl (.tmp 31) (.tmp 31) 22 5 .u8 1 rfl Tryd.underlying22 (by kernel_rfl) (by omega) .i64 .i64 n n n rfl rfl rfl rfl (by omega) ?_; intro w2 hrow hbm hszm)
      have hg : w.heap.size ≤ wr.heap.size := hb2.size
      have hb3 : Below w.heap.size w w2 := hb2.trans (hbm.mono hb2.size)
      obtain ⟨g, hgg⟩ : ∃ g, g = wr.heap.size := ⟨_, rfl⟩
      rw [← hgg] at hrow hg ⊢
      clear hb2 hbm hszm hgg
      go_loopw [35] (fun v wr => ∃ k : Nat, k ≤ n ∧ v = .int .i64 k ∧ RowI wr g 5 .u8 (List.replicate k (Utf.pad l) ++ List.replicate (n - k) 0) ∧ Below w.heap.size w wr) (fun v _ => n - (intOf v).toNat)
      case atStart => exact ⟨0, by omega, rfl, by simpa using hrow, hb3⟩
      case round =>
        obtain ⟨k, hk, rfl, hrw, hb4⟩ := hrel
        by_cases hlt : k < n
        · have hglt := hrw.lt
          have cc := hrw.cell k (by rw [rep_len k n _ hk]; exact hlt)
          rw [rep_get k n _ hlt] at cc
          have ff := hrw.frozen k
          have i1 : (k : Int) < (n : Int) := by omega
          have r1 := hrw.set_ k 128
          have rs := rep_set k n (Utf.pad l) hlt
          rcases HP.out with ⟨e1, e2⟩ | ⟨e1, e2⟩
          · have u1 : ((l : Int) == 1) = false := by rw [e1]; rfl
            have RS := Lib.hid rs
            have R1 := Lib.hid r1
            have E2 := Lib.hid e2
            clear rs r1 e1 e2
            go_wp2_with fail
            go_roundw
            case rel => exact ⟨k + 1, by omega, by go_num, by rw [← RS.out]; have := R1.out; rw [E2.out] at this ⊢; exact this, hb4.setCell (p := ⟨g, k, none⟩) hg _⟩
            case measure => simp [intOf]; omega
          · have u1 : ((l : Int) == 1) = true := by rw [e1]; rfl
            have c2 := r1.cell k (by rw [List.length_set, rep_len k n _ hk]; exact hlt)
            rw [rep_get2 k n _ _ hlt] at c2
            have f2 := r1.frozen k
            have r2 := r1.set_ k 191
            have RS := Lib.hid rs
            have R2 := Lib.hid r2
            have E2 := Lib.hid e2
            clear rs r1 r2 e1 e2
            go_wp2_with fail
            go_roundw
            case rel => exact ⟨k + 1, by omega, by go_num, by rw [← RS.out]; have := R2.out; rw [E2.out] at this ⊢; rw [List.set_set] at this; exact this, (hb4.setCell (p := ⟨g, k, none⟩) hg _).setCell (p := ⟨g, k, none⟩) hg _⟩
            case measure => simp [intOf]; omega
        · obtain rfl : k = n := by omega
          rw [Nat.sub_self, List.replicate_zero, List.append_nil] at hrw
          have hrx := hx.under (w' := wr) hb4
          have hgl := hrw.lt
          go_wp2_with (refine wpList_copy_ints _ rfl (.tmp 47) (.tmp 48) 22 5 .u8 rfl Tryd.underlying22 (by kernel_rfl) g k k _ rfl hrw (by simp) A 1 cp [a] rfl hrx rfl (by simp; omega) ?_; intro w3 hrow3 hg3)
          have hb5 := below_of_only hb4 hg3 hb4.size (fun x hx => by injection hx; omega)
          clear hrw hrx hg3 hb4
          rw [List.drop_replicate] at hrow3
          rw [show k - [a].length = (k - 2) + 1 by simp; omega, List.replicate_succ, List.singleton_append] at hrow3
          have hk2 : 2 ≤ k := by omega
          clear hlt
          have hg0 : w.heap.size ≤ g := hg
          go_wp2_with fail
          obtain ⟨wo2, rfl⟩ : ∃ wo2 : World, wo2 = w3 := ⟨_, rfl⟩
          have hrow4 : ∃ q, RowI wo2 g 5 .u8 (a :: q :: List.replicate (k - 2) (Utf.pad l)) := ⟨_, hrow3⟩
          clear hrow3
          go_loopw [7] (fun v wr => ∃ s : Nat, 128 ≤ s ∧ s ≤ 192 ∧ v = .int .i64 s ∧ (∀ s' : Int, 128 ≤ s' → s' < s → Utf.wholeB (a :: s' :: List.replicate (k - 2) (Utf.pad l)) = false) ∧ (∃ q, RowI wr g 5 .u8 (a :: q :: List.replicate (k - 2) (Utf.pad l))) ∧ Below w.heap.size w wr) (fun v _ => 192 - (intOf v).toNat)
          case atStart => exact ⟨128, by omega, by omega, rfl, fun s' h1 h2 => absurd h2 (by omega), hrow4, hb5⟩
          case round =>
            obtain ⟨s, hs1, hs2, rfl, hf4, ⟨q, hrq⟩, hb6⟩ := hrel
            have HF4 := Lib.hid hf4
            clear hf4
            rcases Nat.lt_or_ge 191 s with h | hs3
            · have hf3 : ∀ l', l' < l + 1 → ∀ s' : Int, 128 ≤ s' → s' ≤ 191 → Utf.wholeB (a :: s' :: List.replicate (k - 2) (Utf.pad l')) = false := fun l' h' s' h1 h2 => by
                rcases Nat.lt_or_ge l' l with h'' | h''
                · exact HF2.out l' h'' s' h1 h2
                · obtain rfl : l' = l := by omega
                  exact HF4.out s' h1 (by omega)
              have HF3 := Lib.hid hf3
              clear hf3
              have d3 : decide ((s : Int) ≤ 191) = false := decide_eq_false (by omega)
              go_wp2_with fail
              go_roundw
              case rel => exact ⟨l + 1, by omega, by go_num, HF3.out, hb6⟩
              case measure => simp [intOf]; omega
            have d3 : decide ((s : Int) ≤ 191) = true := decide_eq_true (by omega)
            have hglt := hrq.lt
            have cc := hrq.cell 1 (by simp)
            rw [show (a :: q :: List.replicate (k - 2) (Utf.pad l)).getD 1 0 = q from rfl] at cc
            have ff := hrq.frozen 1
            have r1 := hrq.set_ 1 s
            rw [show (a :: q :: List.replicate (k - 2) (Utf.pad l)).set 1 s = a :: (s : Int) :: List.replicate (k - 2) (Utf.pad l) from rfl] at r1
            have c8 : IntKind.u8.wrap (s : Int) = s := by simp [IntKind.wrap, IntKind.bits, IntKind.signed]; omega
            have hlen : k = (a :: (s : Int) :: List.replicate (k - 2) (Utf.pad l)).length := by simp; omega
            have HLEN := Lib.hid hlen
            clear hlen
            have hby : ∀ b ∈ a :: (s : Int) :: List.replicate (k - 2) (Utf.pad l), Utf.Byte b := fun b hm => by
              rcases List.mem_cons.1 hm with rfl | hm
              · exact ha
              rcases List.mem_cons.1 hm with rfl | hm
              · constructor <;> omega
              · rw [(List.mem_replicate.1 hm).2]; exact Utf.pad_byte l
            have R1 := Lib.hid r1
            have HBY := Lib.hid hby
            have hb7 := hb6.setCell (p := ⟨g, 1, none⟩) hg0 (Value.int .u8 (s : Int))
            have HB7 := Lib.hid hb7
            clear r1 hby hrq hb7
            go_wp2_with fail
            have r1 := R1.out
            have hb7 := HB7.out
            refine (whole_len (some ⟨g, 0, none⟩) k k _ _ HLEN.out r1.read HBY.out (by have := HLEN.out; omega)).mono ?_
            rintro e w4 ⟨rfl, hb8⟩
            have hb9 : Below w.heap.size w w4 := hb7.trans (hb8.mono hb7.size)
            have r4 := r1.under hb8
            cases hwb : Utf.wholeB (a :: (s : Int) :: List.replicate (k - 2) (Utf.pad l))
            · have hf5 : ∀ s' : Int, 128 ≤ s' → s' < (s + 1 : Nat) → Utf.wholeB (a :: s' :: List.replicate (k - 2) (Utf.pad l)) = false := fun s' h1 h2 => by
                by_cases h' : s' < s
                · exact HF4.out s' h1 h'
                · obtain rfl : s' = s := by omega
                  exact hwb
              have HF5 := Lib.hid hf5
              have R4 := Lib.hid r4
              clear hf5 r4
              go_wp2_with fail
              go_roundw
              case rel => exact ⟨s + 1, by omega, by omega, by go_num, HF5.out, ⟨_, R4.out⟩, hb9⟩
              case measure => simp [intOf]; omega
            · have hw := Lib.hid (Utf.begins_of [a] ((s : Int) :: List.replicate (k - 2) (Utf.pad l)) (fun b h => by rw [List.mem_singleton.1 h]; exact ha) (fun b h => HBY.out b (List.mem_cons_of_mem _ h)) (by simp) (by simp) hwb)
              go_wp2_with fail
              go_ret
              exact ⟨ret_bool hw.out.symm, hb9⟩

theorem begins_any (A : Option Addr) (cp : Nat) (bs : List Int) (w : World) (hx : ReadI w .u8 A bs) (hby : ∀ b ∈ bs, Utf.Byte b) (hl : bs.length ≤ 1048576) :
    Calls Tryd.prog 28 #[.slice A bs.length cp] w fun e w' => e = .returned (.bool (Utf.beginsB bs)) ∧ Below w.heap.size w w' := by
  rcases (show bs.length = 0 ∨ bs.length = 1 ∨ (2 ≤ bs.length ∧ bs.length ≤ 3) ∨ 4 ≤ bs.length by omega) with h | h | h | h
  · match bs, h with
    | [], _ =>
      go_enter Tryd.func28, Tryd.ntmps28
      go_wp2_with fail
      go_ret
      exact ⟨ret_bool rfl, Below.refl _ _⟩
  · match bs, h with
    | [a], _ => exact begins_one A cp a w hx (hby a (by simp))
  · exact begins_more A cp bs w hx hby h.1 h.2
  · have e := Lib.hid (begins_long bs h)
    have t0 : ((bs.length : Int) == 0) = false := beq_eq_false_iff_ne.2 (by omega)
    have t3 : decide (3 < (bs.length : Int)) = true := decide_eq_true (by omega)
    go_enter Tryd.func28, Tryd.ntmps28
    go_wp2_with fail
    go_ret
    exact ⟨ret_bool e.out.symm, Below.refl _ _⟩
end Go.Proofs.YtkdmdklmkachfaaDoor
