/- The walk of utf.Runes. -/
import Derived.Test.YtkdmdklmkachfaaDoorUtfFeed
import Derived.Test.YtkdmdklmkachfaaDoorUtfSame
namespace Go.Proofs.YtkdmdklmkachfaaDoor
open Go.RowKit
open Utf (DS)
set_option linter.unusedVariables false
set_option linter.unusedSimpArgs false

/-- New memory that holds runes, nothing else turned. -/
def NewInts (e : TypeId) (k : IntKind) (w : World) (zs : List Int) (en : Ending) (w' : World) : Prop :=
  ∃ A c, en = .returned (.slice A zs.length c) ∧ OwnI w' w.heap.size e k (.slice A zs.length c) zs ∧ Below w.heap.size w w'

def RunesRel (bs : List Int) (w : World) (v i : Value) (wr : World) : Prop :=
  ∃ (k : Nat) (A : Option Addr) (c : Nat), k ≤ bs.length ∧ i = .int .i64 k ∧ v = .slice A (Utf.told Utf.start (bs.take k)).length c ∧ OwnI wr (w.heap.size + 1) 21 .i32 (.slice A (Utf.told Utf.start (bs.take k)).length c) (Utf.told Utf.start (bs.take k)) ∧
    Dec wr w.heap.size (Utf.after Utf.start (bs.take k)) ∧ Below w.heap.size w wr ∧ w.heap.size < wr.heap.size
theorem take_succ_getD (bs : List Int) (k : Nat) (h : k < bs.length) : bs.take (k + 1) = bs.take k ++ [bs.getD k 0] := by
  rw [List.take_succ_eq_append_getElem h]
  simp [List.getD_eq_getElem?_getD, h]
theorem own_ne {w : World} {base : Nat} {e : TypeId} {k : IntKind} {v : Value} {zs : List Int} (h : OwnI w base e k v zs) (g : Nat) (hg : g < base) : v.ownBlock ≠ some g := fun e' => by
  have := (h.lt g e').1
  omega

theorem runes_any (A : Option Addr) (c : Nat) (bs : List Int) (w : World) (hx : ReadI w .u8 A bs) (hb : ∀ b ∈ bs, Utf.Byte b) (hl : bs.length ≤ 1048576) :
    Calls Tryd.prog 16 #[.slice A bs.length c] w (NewInts 21 .i32 w (Utf.runes bs)) := by
  go_enter Tryd.func16, Tryd.ntmps16
  go_wp2_with fail
  refine (new_any w).mono ?_
  rintro e w1 ⟨rfl, hd1, hb1⟩
  go_wp2_with fail
  go_loopw [4, 10] (fun v i wr => RunesRel bs w v i wr) (fun _ i _ => bs.length - (intOf i).toNat)
  case atStart => exact ⟨0, none, 0, by omega, rfl, rfl, OwnI.nil _ _ _ _, hd1, hb1, hd1.lt⟩
  case round =>
    obtain ⟨k, A1, c1, hk, rfl, rfl, ho, hd, hbel, hsz⟩ := hrel
    have hwf := Utf.wf_after Utf.start Utf.wf_start (bs.take k)
    have htl := Utf.told_len Utf.start (bs.take k)
    simp only [List.length_take] at htl
    by_cases hlt : k < bs.length
    · obtain ⟨b0, o0, rfl, hc⟩ := (hx.under hbel) (by rintro rfl; simp at hlt)
      have hck := hc k hlt
      have hbk : Utf.Byte (bs.getD k 0) := hb _ (by simp [List.getD_eq_getElem?_getD, hlt])
      have hs1 := Utf.told_snoc Utf.start (bs.take k) (bs.getD k 0)
      have hs2 := Utf.after_snoc Utf.start (bs.take k) (bs.getD k 0)
      rw [← take_succ_getD bs k hlt] at hs1 hs2
      have hfl := Utf.feed_len (Utf.after Utf.start (bs.take k)) (bs.getD k 0)
      have HS1 := Lib.hid hs1
      have HS2 := Lib.hid hs2
      have i1 : (k : Int) < (bs.length : Int) := by omega
      clear hs1 hs2 hc
      obtain ⟨b, hbb⟩ : ∃ b, b = bs.getD k 0 := ⟨_, rfl⟩
      rw [← hbb] at hck hbk HS1 HS2 hfl
      clear hbb
      go_wp2_with fail
      refine (feed_any b hbk wr w.heap.size _ hd hwf).mono ?_
      rintro e w2 ⟨A2, c2, rfl, h1, h2, h3⟩
      have ho2 := ho.only h3 (.inr (own_ne ho _ (by omega)))
      have hbel2 := below_of_only hbel h3 (by omega) (fun g hg => by injection hg; omega)
      have hne := own_ne ho2 w.heap.size (by omega)
      have hsz2 := h3.size
      clear ho h3 hd hbel
      go_wp2_with (at_builtin; refine wpList_append_ints _ rfl (.tmp 14) (.tmp 17) 28 21 .i32 4 rfl Tryd.underlying28 (by kernel_rfl) (by omega) (w.heap.size + 1) _ _ rfl ho2 A2 c2 _ rfl h1.read (by omega) (by omega) ?_; intro A3 c3 w3 hap)
      go_roundw
      case rel =>
        refine ⟨k + 1, A3, c3, by omega, by go_num, ?_, ?_, ?_, below_of_only hbel2 hap.only (by omega) (fun g hg => ?_), ?_⟩
        · rw [HS1.out, List.length_append]
        · rw [HS1.out, List.length_append]; exact hap.own
        · rw [HS2.out]; exact Blk.grown h2 hap.only (Ne.symm hne)
        · have := (ho2.lt g hg).1; omega
        · have := hap.only.size; omega
      case measure => simp [intOf]; omega
    · obtain rfl : k = bs.length := by omega
      rw [List.take_length] at *
      go_wp2_with fail
      refine (end_any wr w.heap.size _ hd).mono ?_
      rintro e w2 ⟨A2, c2, rfl, h1, h2, h3⟩
      dsimp only at h1 h2
      have ho2 := ho.only h3 (.inr (own_ne ho _ (by omega)))
      have hbel2 := below_of_only hbel h3 (by omega) (fun g hg => by injection hg; omega)
      have hsz2 := h3.size
      have hel := Utf.end_len (Utf.after Utf.start bs)
      clear ho h3 hd hbel
      go_wp2_with (at_builtin; refine wpList_append_ints _ rfl (.tmp 20) (.tmp 22) 28 21 .i32 4 rfl Tryd.underlying28 (by kernel_rfl) (by omega) (w.heap.size + 1) _ _ rfl ho2 A2 c2 (Utf.endT (Utf.after Utf.start bs)) rfl h1.read (by omega) (by omega) ?_; intro A3 c3 w3 hap)
      go_ret
      have e : Utf.runes bs = Utf.told Utf.start bs ++ Utf.endT (Utf.after Utf.start bs) := rfl
      refine ⟨A3, c3, ?_, ?_, below_of_only hbel2 hap.only (by omega) (fun g hg => ?_)⟩
      · rw [e, List.length_append]; rfl
      · rw [e, List.length_append]; exact hap.own.mono (by omega)
      · have := (ho2.lt g hg).1; omega
end Go.Proofs.YtkdmdklmkachfaaDoor
