/- Small plain lemmas that all walks of this seat use: endings, results, frames. No statement of the seat stands here. -/
import Derived.Test.YtkodmoeohffjhaaRows
import Derived.WalkKit
import Derived.Deep.Draws
import Derived.Laws.Tables
import Derived.Laws.BitsAllLaws
import Derived.Laws.BitsLemmas
namespace Go.Proofs.Ytkodmoeohffjhaa
open Go.RowKit

theorem ret_int {k : IntKind} {a b : Int} (h : a = b) : Ending.returned (.int k a) = .returned (.int k b) := by rw [h]
theorem ret_bool {a b : Bool} (h : a = b) : Ending.returned (.bool a) = .returned (.bool b) := by rw [h]
theorem ret_true {b : Bool} (h : b = true) : Ending.returned (.bool b) = .returned (.bool true) := by rw [h]
theorem results_tmp4 {fn : Func} {t u v x : Tmp} (h : fn.results = #[.tmp t, .tmp u, .tmp v, .tmp x]) (tmps : Array Value) (P : Program) (w : World) :
    (results fn tmps).run P w = .ok (.tuple #[tmps.getD t undef, tmps.getD u undef, tmps.getD v undef, tmps.getD x undef]) w := by simp [results, h]
theorem results_tmp5 {fn : Func} {t u v x y : Tmp} (h : fn.results = #[.tmp t, .tmp u, .tmp v, .tmp x, .tmp y]) (tmps : Array Value) (P : Program) (w : World) :
    (results fn tmps).run P w = .ok (.tuple #[tmps.getD t undef, tmps.getD u undef, tmps.getD v undef, tmps.getD x undef, tmps.getD y undef]) w := by simp [results, h]
theorem below_drewN {B : Nat} {a w : World} (h : Below B a w) (n : Nat) : Below B a (w.drewN n) := ⟨h.os, h.tape, h.output, h.size, h.block⟩
/-- Behind a call that leaves 'Below': old cells and marks read as they did. -/
theorem bcell {W w1 : World} (hb : Below W.heap.size W w1) : (∀ b o, b < W.heap.size → w1.cell? ⟨b, o, none⟩ = W.cell? ⟨b, o, none⟩) ∧ (∀ b o, b < W.heap.size → w1.frozen? ⟨b, o, none⟩ = W.frozen? ⟨b, o, none⟩) :=
  ⟨fun b o h => hb.cell (p := ⟨b, o, none⟩) h, fun b o h => hb.frozen (p := ⟨b, o, none⟩) h⟩
theorem ofInt_i64 (a : Nat) (ha : a < 9223372036854775808) : (BitVec.ofInt 64 (a : Int)).toNat = a := by
  rw [BitVec.ofInt_natCast, BitVec.toNat_ofNat]; exact Nat.mod_eq_of_lt (by omega)
theorem i64_and_nat (a b : Nat) (ha : a < 9223372036854775808) (hb : b < 9223372036854775808) : bits .and .i64 (a : Int) (b : Int) = ((a &&& b : Nat) : Int) := by
  have hx : a &&& b < 2 ^ 63 := Nat.and_lt_two_pow _ (by omega)
  show IntKind.i64.wrap ((BitVec.ofInt 64 (a : Int) &&& BitVec.ofInt 64 (b : Int)).toNat : Int) = _
  rw [BitVec.toNat_and, ofInt_i64 a ha, ofInt_i64 b hb, IntKind.wrap_i64]
  omega
theorem i64_mask (k : Nat) (hk : k < 63) (x : Int) (h0 : 0 ≤ x) (h1 : x < 9223372036854775808) : bits .and .i64 x ((2 ^ k - 1 : Nat) : Int) = x % (2 ^ k : Nat) := by
  obtain ⟨n, rfl⟩ := Int.eq_ofNat_of_zero_le h0
  have h2 : 2 ^ k - 1 < 9223372036854775808 := by
    have : 2 ^ k < 2 ^ 63 := Nat.pow_lt_pow_right (by omega) hk
    omega
  rw [i64_and_nat n (2 ^ k - 1) (by omega) h2, Nat.and_two_pow_sub_one_eq_mod]
  rfl
theorem i64_mask8 (x : Int) (h0 : 0 ≤ x) (h1 : x < 9223372036854775808) : bits .and .i64 x 255 = x % 256 := i64_mask 8 (by omega) x h0 h1

/-- A store over the whole of a block that was laid last. -/
theorem setRow_alloc (w : World) (cs ds : Array Value) (t : TypeId) (fr : Nat × Nat) : (w.alloc (.cells cs t fr)).setRow w.heap.size ds = w.alloc (.cells ds t fr) := by
  unfold World.setRow World.alloc
  simp only
  congr 1
  apply Array.ext
  · simp
  · intro i h1 h2
    simp only [Array.getElem_modify, Array.getElem_push]
    by_cases hi : w.heap.size = i
    · subst hi; simp
    · have : i < w.heap.size := by simp at h1; omega
      simp [hi, this]
/-- A store over the whole of the block that was laid last. -/
theorem wpList_store_new {P : Program} {ops : Array Oper} {rest : List Oper} {o : Oper} {a : Act} {Q : Exit → Act → World → Prop} (w1 : World) (hgd : o.guard = none) (ty : TypeId) (x y : Operand) (ho : o.op = .store ty x y)
    (cells : Array Value) (hx : a.eval x = .pointer (some ⟨w1.heap.size, 0, none⟩)) (hy : a.eval y = .agg cells)
    (t : TypeId) (old : Array Value) (hi : (P.info? ty).map (·.size) = some cells.size)
    (hold : old.size = cells.size) (h1 : cells.all (·.oneCell') = true)
    (h : wpList P ops Q rest (a.put o.dst undef) (w1.alloc (.cells cells t))) : wpList P ops Q (o :: rest) a (w1.alloc (.cells old t)) :=
  wpList_store_row hgd ty x y ho w1.heap.size cells hx hy t old (heap_alloc_new _ _) hi hold h1 (by rw [setRow_alloc]; exact h)
/-- One operation whose run is told. -/
theorem wpList_val {P : Program} {ops : Array Oper} {rest : List Oper} {o : Oper} {a : Act} {w : World} {Q : Exit → Act → World → Prop} (hgd : o.guard = none) (v : Value) (w' : World)
    (hr : (execOp a.eval o).run P w = .ok (.value v) w') (h : wpList P ops Q rest (a.put o.dst v) w') : wpList P ops Q (o :: rest) a w :=
  wpList_plain hgd fun _ hK => by
    unfold Oper.wp
    rw [hr]
    exact hK _ _ h

/-! ### '==' on arrays of three integers -/
theorem run_part_int {P : Program} (w : World) (e : TypeId) (k : IntKind) (cs : Array Value) (off : Nat) (v : Value) (he : P.underlying e = some (.int k)) (hv : cs[off]? = some v) : (part e cs off).run P w = .ok v w := by
  unfold part isAgg
  simp [run_underlying he, hv]
theorem run_equalIn_arr3 {P : Program} (w : World) (d : Nat) (t e : TypeId) (k : IntKind) (ht : P.underlying t = some (.array 3 e)) (he : P.underlying e = some (.int k)) (hs : (P.info? e).map (·.size) = some 1) (a b c : Int) :
    (Op.equalIn (d + 2) t (.agg #[.int k a, .int k b, .int k c]) (.agg #[.int k a, .int k b, .int k c])).run P w = .ok true w := by
  obtain ⟨i, hi, hsz⟩ : ∃ i, P.info? e = some i ∧ i.size = 1 := by
    cases h : P.info? e with
    | none => simp [h] at hs
    | some i => simp [h] at hs; exact ⟨i, rfl, hs⟩
  have hk : ∀ x : Int, (Op.equalIn (d + 1) e (.int k x) (.int k x)).run P w = .ok true w := fun x => by simp [Op.equalIn, run_underlying he]
  have hp : ∀ n v, (#[Value.int k a, .int k b, .int k c])[n]? = some v → (part e #[Value.int k a, .int k b, .int k c] n).run P w = .ok v w := fun n v h => run_part_int w e k _ n v he h
  have h0 := hp 0 _ rfl
  have h1 := hp 1 _ rfl
  have h2 := hp 2 _ rfl
  rw [Op.equalIn]
  simp [run_underlying ht, sizeOf, typeInfo, hi, hsz, List.range'_succ, h0, h1, h2, hk]
theorem run_eql_arr3 {P : Program} (w : World) (t e : TypeId) (k : IntKind) (ht : P.underlying t = some (.array 3 e)) (he : P.underlying e = some (.int k)) (hs : (P.info? e).map (·.size) = some 1) (a b c : Int) :
    (binOp .eql t (.agg #[.int k a, .int k b, .int k c]) (.agg #[.int k a, .int k b, .int k c])).run P w = .ok (.bool true) w := by
  rw [run_eql_struct, run_equalIn_arr3 w 9998 t e k ht he hs a b c]
  rfl

/-! ### '|' on uint32 -/
theorem or32 (f g : Int) (h0 : 0 ≤ f) (h1 : f < 4294967296) (g0 : 0 ≤ g) (g1 : g < 4294967296) :
    0 ≤ bits .or .u32 f g ∧ bits .or .u32 f g < 4294967296 ∧ (f % 2 = 1 → bits .or .u32 f g % 2 = 1) ∧ (f / 2 % 2 = 1 → bits .or .u32 f g / 2 % 2 = 1) := by
  obtain ⟨a, rfl⟩ := Int.eq_ofNat_of_zero_le h0
  obtain ⟨b, rfl⟩ := Int.eq_ofNat_of_zero_le g0
  rw [u32_or_nat a b (by omega) (by omega)]
  have hlt : a ||| b < 2 ^ 32 := Nat.or_lt_two_pow (by omega) (by omega)
  have key : ∀ x y : Nat, x % 2 = 1 → (x ||| y) % 2 = 1 := fun x y h => by
    have := Nat.or_mod_two_pow (a := x) (b := y) (n := 1)
    simp only [Nat.pow_one] at this
    rw [this, h]
    rcases (show y % 2 = 0 ∨ y % 2 = 1 by omega) with e | e
    · rw [e]; rfl
    · rw [e]; decide
  refine ⟨by omega, by omega, fun h => ?_, fun h => ?_⟩
  · have := key a b (by omega)
    omega
  · have := key (a / 2) (b / 2) (by omega)
    rw [← Nat.or_div_two] at this
    omega

/-! ### bits of int32 -/
theorem ofInt_i32 (a : Nat) (ha : a < 2147483648) : (BitVec.ofInt 32 (a : Int)).toNat = a := by
  rw [BitVec.ofInt_natCast, BitVec.toNat_ofNat]; exact Nat.mod_eq_of_lt (by omega)
theorem i32_or_nat (a b : Nat) (ha : a < 2147483648) (hb : b < 2147483648) : bits .or .i32 (a : Int) (b : Int) = ((a ||| b : Nat) : Int) := by
  have hx : a ||| b < 2 ^ 31 := Nat.or_lt_two_pow (by omega) (by omega)
  show IntKind.i32.wrap ((BitVec.ofInt 32 (a : Int) ||| BitVec.ofInt 32 (b : Int)).toNat : Int) = _
  rw [BitVec.toNat_or, ofInt_i32 a ha, ofInt_i32 b hb]
  simp [IntKind.wrap, IntKind.bits, IntKind.signed]
  omega
/-- n << 6 | b & 0x3F. -/
theorem shl6_or (n b : Int) (h0 : 0 ≤ n) (h1 : n < 33554432) (b0 : 0 ≤ b) (b1 : b < 256) : bits .or .i32 (n * 64) (wrap32 (bits .and .u8 b 63)) = n * 64 + b % 64 := by
  obtain ⟨x, rfl⟩ := Int.eq_ofNat_of_zero_le h0
  obtain ⟨y, rfl⟩ := Int.eq_ofNat_of_zero_le b0
  have e1 : bits .and .u8 (y : Int) 63 = ((y % 64 : Nat) : Int) := by
    have := u8_and_nat y 63 (by omega) (by omega)
    rw [nat_mask6] at this
    exact this
  have e2 : wrap32 ((y % 64 : Nat) : Int) = ((y % 64 : Nat) : Int) := by unfold wrap32; omega
  rw [e1, e2]
  have e3 : ((x : Int) * 64) = ((x * 64 : Nat) : Int) := by omega
  rw [e3, i32_or_nat (x * 64) (y % 64) (by omega) (by omega), nat_join 6 (x * 64) (y % 64) (by omega) (by omega)]
  omega
end Go.Proofs.Ytkodmoeohffjhaa
