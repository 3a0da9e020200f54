/- The walks of utf.Encode and of the copy of bytes. -/
import Derived.Test.YtijjnpegokfidaaDoorUtfFeed
import Derived.Test.YtijjnpegokfidaaDoorReg
import Derived.Lib.Hide
import Derived.Laws.IdiomStrings
import Derived.Laws.BytesArg
import Derived.Laws.Runes
namespace Go.Proofs.YtijjnpegokfidaaDoor
open Go.RowKit
open Utf (DS)
set_option linter.unusedVariables false
set_option linter.unusedSimpArgs false

theorem wpList_convert_run {P : Program} {ops : Array Oper} {rest : List Oper} {o : Oper} {a : Act} {Q : Exit → Act → World → Prop} (w w' : World) (hgd : o.guard = none) (src dst : TypeId) (x : Operand) (ho : o.op = .convert src dst x)
    (X V : Value) (hx : a.eval x = X) (hrun : (convert src dst X).run P w = .ok V w') (h : wpList P ops Q rest (a.put o.dst V) w') : wpList P ops Q (o :: rest) a w := by
  refine wpList_plain hgd fun K hK => ?_
  unfold Oper.wp execOp
  simp only [ho, hx, Sem.run_bind, Sem.run_pure, hrun, Result.andThen_ok]
  exact hK _ _ h

/-- New memory that holds runes, nothing else turned. -/
def NewInts (e : TypeId) (k : IntKind) (w : World) (zs : List Int) (en : Ending) (w' : World) : Prop :=
  ∃ A c, en = .returned (.slice A zs.length c) ∧ OwnI w' w.heap.size e k (.slice A zs.length c) zs ∧ Below w.heap.size w w'

/-- New memory that reads so; nothing else turned. -/
def NewRead (k : IntKind) (w : World) (zs : List Int) (en : Ending) (w' : World) : Prop :=
  ∃ A c, en = .returned (.slice A zs.length c) ∧ ReadI w' k A zs ∧ (∀ b o, A = some ⟨b, o, none⟩ → w.heap.size ≤ b) ∧ Below w.heap.size w w'

def ints (s : ByteArray) : List Int := s.data.toList.map fun b => (b.toNat : Int)
theorem ints_len (s : ByteArray) : (ints s).length = s.size := by simp [ints]
theorem valid_may (r : Int) : Utf8.valid r = Utf.may r := by
  rw [Bool.eq_iff_iff]
  simp [Utf8.valid, Utf.may]
  omega
theorem ints_encode (r : Int) : ints (Utf8.encode r) = Utf.enc r := by
  have key : ∀ c : Nat, c < 1114112 → ints (if c < 0x80 then ⟨#[UInt8.ofNat c]⟩
      else if c < 0x800 then ⟨#[UInt8.ofNat (0xC0 + c / 64), UInt8.ofNat (0x80 + c % 64)]⟩
      else if c < 0x10000 then ⟨#[UInt8.ofNat (0xE0 + c / 4096), UInt8.ofNat (0x80 + c / 64 % 64), UInt8.ofNat (0x80 + c % 64)]⟩
      else ⟨#[UInt8.ofNat (0xF0 + c / 262144), UInt8.ofNat (0x80 + c / 4096 % 64), UInt8.ofNat (0x80 + c / 64 % 64), UInt8.ofNat (0x80 + c % 64)]⟩) = Utf.enc1 (c : Int) := by
    intro c hc
    unfold Utf.enc1
    by_cases h1 : c < 128
    · rw [if_pos h1, if_pos (show (c : Int) < 128 by omega)]
      simp [ints]
      omega
    · rw [if_neg h1, if_neg (show ¬ (c : Int) < 128 by omega)]
      by_cases h2 : c < 2048
      · rw [if_pos h2, if_pos (show (c : Int) < 2048 by omega)]
        simp [ints]
        omega
      · rw [if_neg h2, if_neg (show ¬ (c : Int) < 2048 by omega)]
        by_cases h3 : c < 65536
        · rw [if_pos h3, if_pos (show (c : Int) < 65536 by omega)]
          simp [ints]
          omega
        · rw [if_neg h3, if_neg (show ¬ (c : Int) < 65536 by omega)]
          simp [ints]
          omega
  unfold Utf8.encode Utf.enc
  rw [valid_may]
  by_cases hm : Utf.may r = true
  · have hb := (Utf.may_iff r).1 hm
    have := key r.toNat (by omega)
    rw [show ((r.toNat : Nat) : Int) = r by omega] at this
    simp only [hm, if_true]
    exact this
  · have := key 65533 (by omega)
    simp only [hm, if_false]
    exact this
theorem read_bytes (w : World) (e : TypeId) (s : ByteArray) (cap : Nat) (fr : Nat × Nat) : ReadI (w.alloc (.cells (bytesRow s cap) e fr)) .u8 (some ⟨w.heap.size, 0, none⟩) (ints s) := fun _ => by
  refine ⟨w.heap.size, 0, rfl, fun j hj => ?_⟩
  have hj' : j < s.data.size := by rw [ints_len] at hj; exact hj
  rw [Nat.zero_add, cell_of_row (w.alloc (.cells (bytesRow s cap) e fr)) w.heap.size j (bytesRow s cap) e fr (heap_alloc_new w _), bytesRow_at s cap j hj']
  simp only [ints, List.getD_eq_getElem?_getD, List.getElem?_map, Array.getElem?_toList, Array.getElem?_eq_getElem hj']
  rfl

theorem encode_any (r : Int) (w : World) : Calls Tryd.prog 13 #[.int .i32 r] w (NewRead .u8 w (Utf.enc r)) := by
  have hen := ints_encode r
  have hsz := ints_len (Utf8.encode r)
  rw [hen] at hsz
  have HEN := Lib.hid hen
  have HSZ := Lib.hid hsz
  clear hen hsz
  go_enter Tryd.func13, Tryd.ntmps13
  go_wp2_with (first
    | (refine wpList_convert_run _ _ rfl 21 9 (.tmp 3) rfl _ _ rfl (run_convert_int_string _ 21 9 .i32 r (by rw [Tryd.underlying21]; rfl) Tryd.underlying9) ?_)
    | (refine wpList_convert_run _ _ rfl 9 23 (.tmp 4) rfl (.string (Utf8.encode r)) _ rfl (run_bytes_of_string _ 9 23 5 (Utf8.encode r) Tryd.underlying9 Tryd.underlying23 Tryd.underlying5) ?_))
  go_ret
  refine ⟨_, grownCap w (Utf8.encode r).size 0 5, by rw [HSZ.out]; rfl, ?_, fun b o h => by injection h with h; injection h with h; omega, below_alloc (below_drew (Below.refl _ _)) _⟩
  rw [← HEN.out]
  exact read_bytes w.drew 5 _ _ _

theorem copy_any (A : Option Addr) (n c : Nat) (bs : List Int) (w : World) (hn : n = bs.length) (hx : ReadI w .u8 A bs) (hl : bs.length ≤ 1048576) :
    Calls Tryd.prog 12 #[.slice A n c] w (NewInts 5 .u8 w bs) := by
  subst hn
  have HX := Lib.hid hx
  clear hx
  go_enter Tryd.func12, Tryd.ntmps12
  go_wp2_with (first
    | (refine wpList_make_ints _ rfl (.tmp 5) (.tmp 5) 23 5 .u8 1 rfl Tryd.underlying23 (by kernel_rfl) (by omega) .i64 .i64 bs.length bs.length bs.length rfl rfl rfl rfl (by omega) ?_; intro w2 hrow hbm hszm)
    | (refine wpList_copy_ints _ rfl (.tmp 7) (.tmp 8) 23 5 .u8 rfl Tryd.underlying23 (by kernel_rfl) w.heap.size bs.length bs.length _ rfl hrow (by simp) A bs.length c bs rfl (HX.out.under hbm) rfl (by simp) ?_; intro w3 hrow3 hg3))
  go_ret
  have e := below_of_only hbm hg3 hbm.size (fun x hx => by injection hx; omega)
  rw [List.drop_replicate, Nat.sub_self, List.replicate_zero, List.append_nil] at hrow3
  exact ⟨_, _, rfl, hrow3.own (Nat.le_refl _) (by simp only [maxLen]; omega), e⟩
end Go.Proofs.YtijjnpegokfidaaDoor
