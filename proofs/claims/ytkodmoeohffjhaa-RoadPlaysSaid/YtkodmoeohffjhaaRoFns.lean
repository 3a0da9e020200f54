/- Small functions of the laws: copies and comparisons of bytes, a datagram of a text, the comparison of datagrams. -/
import Derived.Test.YtkodmoeohffjhaaRoF2
import Derived.Laws.IdiomStrings
import Derived.Laws.BytesArg
import Derived.Laws.Runes
namespace Go.Proofs.Ytkodmoeohffjhaa
open Go.RowKit
set_option linter.unusedVariables false
set_option linter.unusedSimpArgs false

/-- New memory that holds integers, nothing else turned. -/
def NewInts (e : TypeId) (k : IntKind) (w : World) (zs : List Int) (en : Ending) (w' : World) : Prop :=
  ∃ A c, en = .returned (.slice A zs.length c) ∧ OwnI w' w.heap.size e k (.slice A zs.length c) zs ∧ Below w.heap.size w w'
theorem copy_any (A : Option Addr) (n c : Nat) (bs : List Int) (w : World) (hn : n = bs.length) (hx : ReadI w .u8 A bs) (hl : bs.length ≤ 1048576) :
    Calls Try.prog 13 #[.slice A n c] w (NewInts 5 .u8 w bs) := by
  subst hn
  have HX := Lib.hid hx
  clear hx
  go_enter Try.func13, Try.ntmps13
  go_wp2_with (first
    | (refine wpList_make_ints _ rfl (.tmp 5) (.tmp 5) 30 5 .u8 1 rfl Try.underlying30 (by kernel_rfl) (by omega) .i64 .i64 bs.length bs.length bs.length rfl rfl rfl rfl (by omega) ?_; intro w2 hrow hbm hszm)
    | (refine wpList_copy_ints _ rfl (.tmp 7) (.tmp 8) 30 5 .u8 rfl Try.underlying30 (by kernel_rfl) w.heap.size bs.length bs.length _ rfl hrow (by simp) A bs.length c bs rfl (HX.out.under hbm) rfl (by simp) ?_; intro w3 hrow3 hg3))
  go_ret
  have e := below_of_only hbm hg3 hbm.size (fun x hx => by injection hx; omega)
  rw [List.drop_replicate, Nat.sub_self, List.replicate_zero, List.append_nil] at hrow3
  exact ⟨_, _, rfl, hrow3.own (Nat.le_refl _) (by simp only [maxLen]; omega), e⟩
theorem sameB_any (A B : Option Addr) (c d : Nat) (xs ys : List Int) (w : World) (hx : ReadI w .u8 A xs) (hy : ReadI w .u8 B ys) (hxl : xs.length ≤ 17592186044415) (hyl : ys.length ≤ 17592186044415) :
    Calls Try.prog 11 #[.slice A xs.length c, .slice B ys.length d] w fun e w' => e = .returned (.bool (decide (xs = ys))) ∧ ∃ m, w' = w.drewN m := by
  by_cases hl : xs.length = ys.length
  · have t0 : ((xs.length : Int) != (ys.length : Int)) = false := by rw [hl]; simp
    have HL := Lib.hid hl
    clear hl
    go_enter Try.func11, Try.ntmps11
    go_wp2_with fail
    go_loopw [13] (fun i wr => ∃ k m : Nat, k ≤ xs.length ∧ i = .int .i64 k ∧ xs.take k = ys.take k ∧ wr = w.drewN m) (fun i _ => xs.length - (intOf i).toNat)
    case atStart => exact ⟨0, 0, by omega, rfl, rfl, rfl⟩
    case round =>
      obtain ⟨k, m, hk, rfl, ht, rfl⟩ := hrel
      have HT := Lib.hid ht
      clear ht
      by_cases hlt : k < xs.length
      · have hky : k < ys.length := by have := HL.out; omega
        obtain ⟨b1, o1, rfl, hc1⟩ := hx (by rintro rfl; simp at hlt)
        obtain ⟨b2, o2, rfl, hc2⟩ := hy (by rintro rfl; simp at hky)
        have c1 := hc1 k hlt
        have c2 := hc2 k hky
        obtain ⟨x, hxk⟩ : ∃ x, x = xs.getD k 0 := ⟨_, rfl⟩
        obtain ⟨y, hyk⟩ : ∃ y, y = ys.getD k 0 := ⟨_, rfl⟩
        rw [← hxk] at c1
        rw [← hyk] at c2
        have HX := Lib.hid hxk
        have HY := Lib.hid hyk
        clear hxk hyk hc1 hc2 hx hy
        have i1 : (k : Int) < (xs.length : Int) := by omega
        have i2 : (k : Int) < (ys.length : Int) := by omega
        by_cases hxy : x = y
        · have t1 : (x != y) = false := by simp [hxy]
          have hs : xs.take (k + 1) = ys.take (k + 1) := by
            rw [List.take_succ_eq_append_getElem hlt, List.take_succ_eq_append_getElem hky, HT.out]
            have e1 := HX.out
            have e2 := HY.out
            simp [List.getD_eq_getElem?_getD, hlt] at e1
            simp [List.getD_eq_getElem?_getD, hky] at e2
            rw [← e1, ← e2, hxy]
          have HS := Lib.hid hs
          clear hs hxy
          go_wp2_with fail
          go_quiet (fail)
          go_wp2_with fail
          go_roundw
          case rel => exact ⟨k + 1, _, by omega, by go_num, HS.out, rfl⟩
          case measure => simp [intOf]; omega
        · have t1 : (x != y) = true := by simp [hxy]
          have hs : decide (xs = ys) = false := by
            apply decide_eq_false
            rintro rfl
            exact hxy (HX.out.trans HY.out.symm)
          have HS := Lib.hid hs
          clear hs hxy
          go_wp2_with fail
          go_quiet (fail)
          go_wp2_with fail
          go_ret
          exact ⟨ret_bool HS.out.symm, _, World.drewN_drewN _ _ _⟩
      · have hs : decide (xs = ys) = true := by
          apply decide_eq_true
          have h1 := HT.out
          have h2 := HL.out
          rwa [List.take_of_length_le (by omega), List.take_of_length_le (by omega)] at h1
        have HS := Lib.hid hs
        clear hs
        go_wp2_with fail
        go_ret
        exact ⟨ret_bool HS.out.symm, m, rfl⟩
  · have t0 : ((xs.length : Int) != (ys.length : Int)) = true := by simp; omega
    have hs : decide (xs = ys) = false := decide_eq_false (fun e => hl (by rw [e]))
    have HS := Lib.hid hs
    clear hs hl
    go_enter Try.func11, Try.ntmps11
    go_wp2_with fail
    go_ret
    exact ⟨ret_bool HS.out.symm, 0, rfl⟩

theorem sameB_dec (A B : Option Addr) (c d n m : Nat) (xs ys : List Int) (w : World) (r : Bool) (hn : n = xs.length) (hm : m = ys.length) (hx : ReadI w .u8 A xs) (hy : ReadI w .u8 B ys) (hxl : xs.length ≤ 17592186044415) (hyl : ys.length ≤ 17592186044415) (he : decide (xs = ys) = r) :
    Calls Try.prog 11 #[.slice A n c, .slice B m d] w fun e w' => e = .returned (.bool r) ∧ Below w.heap.size w w' := by
  subst hn hm he
  refine (sameB_any A B c d xs ys w hx hy hxl hyl).mono ?_
  rintro e w' ⟨rfl, k, rfl⟩
  exact ⟨rfl, below_drewN (Below.refl _ _) k⟩
theorem wpList_convert_run {P : Program} {ops : Array Oper} {rest : List Oper} {o : Oper} {a : Act} {Q : Exit → Act → World → Prop} (w w' : World) (hgd : o.guard = none) (src dst : TypeId) (x : Operand) (ho : o.op = .convert src dst x)
    (X V : Value) (hx : a.eval x = X) (hrun : (convert src dst X).run P w = .ok V w') (h : wpList P ops Q rest (a.put o.dst V) w') : wpList P ops Q (o :: rest) a w := by
  refine wpList_plain hgd fun K hK => ?_
  unfold Oper.wp execOp
  simp only [ho, hx, Sem.run_bind, Sem.run_pure, hrun, Result.andThen_ok]
  exact hK _ _ h

/-- New memory that reads so; nothing else turned. -/
def NewRead (k : IntKind) (w : World) (zs : List Int) (en : Ending) (w' : World) : Prop :=
  ∃ A c, en = .returned (.slice A zs.length c) ∧ ReadI w' k A zs ∧ (∀ b o, A = some ⟨b, o, none⟩ → w.heap.size ≤ b) ∧ Below w.heap.size w w'

def ints (s : ByteArray) : List Int := s.data.toList.map fun b => (b.toNat : Int)
theorem ints_len (s : ByteArray) : (ints s).length = s.size := by simp [ints]
theorem read_bytes (w : World) (e : TypeId) (s : ByteArray) (cap : Nat) (fr : Nat × Nat) : ReadI (w.alloc (.cells (bytesRow s cap) e fr)) .u8 (some ⟨w.heap.size, 0, none⟩) (ints s) := fun _ => by
  refine ⟨w.heap.size, 0, rfl, fun j hj => ?_⟩
  have hj' : j < s.data.size := by rw [ints_len] at hj; exact hj
  rw [Nat.zero_add, cell_of_row (w.alloc (.cells (bytesRow s cap) e fr)) w.heap.size j (bytesRow s cap) e fr (heap_alloc_new w _), bytesRow_at s cap j hj']
  simp only [ints, List.getD_eq_getElem?_getD, List.getElem?_map, Array.getElem?_toList, Array.getElem?_eq_getElem hj']
  rfl

theorem gram_any (s : ByteArray) (w : World) : Calls Try.prog 16 #[.string s] w fun e w' => ∃ A c, e = .returned (gramV 0 false A (ints s).length c) ∧ ReadI w' .u8 A (ints s) ∧ (∀ b o, A = some ⟨b, o, none⟩ → w.heap.size ≤ b) ∧ Below w.heap.size w w' := by
  go_enter Try.func16, Try.ntmps16
  go_wp2_with (refine wpList_convert_run _ _ rfl 9 30 (.tmp 3) rfl (.string s) _ rfl (run_bytes_of_string _ 9 30 5 s Try.underlying9 Try.underlying30 Try.underlying5) ?_)
  generalize grownCap _ s.size 0 5 = cap
  refine bodyPost_ret (v := gramV 0 false (some ⟨w.heap.size + 1, 0, none⟩) s.size cap) (by simp [results, Try.results16, go_sem]) rfl ?_
  refine ⟨_, cap, by rw [ints_len], ?_, fun b o h => by injection h with h; injection h with h; omega, below_drew (below_alloc (below_alloc (Below.refl _ _) _) _)⟩
  have h1 := fun (o : Obj) (fr : Nat × Nat) => read_bytes (w.alloc o) 5 s cap fr
  have hz : ∀ o : Obj, (w.alloc o).heap.size = w.heap.size + 1 := fun o => by simp
  simp only [hz] at h1
  exact h1 _ _
/-- A slice of datagrams that reads as these. -/
structure GRead (w : World) (A : Option Addr) (G : List ME) : Prop where
  row : ReadC w A (G.flatMap gcell)
  bytes : ∀ q ∈ G, ReadI w .u8 q.2.1 q.1.bs
theorem GRead.under {w w' : World} {A : Option Addr} {G : List ME} (h : GRead w A G) (hb : Below w.heap.size w w') : GRead w' A G := ⟨h.row.under hb, fun q hq => (h.bytes q hq).under hb⟩
theorem gcell_at : ∀ (L : List ME) (i : Nat) (q : ME), L[i]? = some q → ∀ j, j < 3 → (L.flatMap gcell)[i * 3 + j]? = (gcell q)[j]?
  | [], i, q, h, j, hj => by simp at h
  | p :: L, 0, q, h, j, hj => by
    simp at h
    subst h
    rw [List.flatMap_cons, Nat.zero_mul, Nat.zero_add, List.getElem?_append_left (by simp [gcell]; omega)]
  | p :: L, i + 1, q, h, j, hj => by
    rw [List.flatMap_cons, List.getElem?_append_right (by simp [gcell]; omega)]
    have : (i + 1) * 3 + j - (gcell p).length = i * 3 + j := by simp [gcell]; omega
    rw [this]
    exact gcell_at L i q (by simpa using h) j hj
theorem GRead.cells {w : World} {A : Option Addr} {G : List ME} {i : Nat} {q : ME} (h : GRead w A G) (hq : G[i]? = some q) :
    ∃ b o, A = some ⟨b, o, none⟩ ∧ w.cell? ⟨b, o + i * 3, none⟩ = some (.int .i64 q.1.addr) ∧ w.cell? ⟨b, o + i * 3 + 1, none⟩ = some (.bool q.1.down) ∧ w.cell? ⟨b, o + i * 3 + 2, none⟩ = some (.slice q.2.1 q.1.bs.length q.2.2) := by
  have hG : G.flatMap gcell ≠ [] := fun e => by
    have := congrArg List.length e
    rw [gcell_len] at this
    have := getElem?_lt hq
    simp at *
    omega
  obtain ⟨b, o, rfl, hc⟩ := h.row hG
  have h3 := fun j (hj : j < 3) => gcell_at G i q hq j hj
  exact ⟨b, o, rfl, by have := hc _ _ (h3 0 (by omega)); exact this, by have := hc _ _ (h3 1 (by omega)); rwa [← Nat.add_assoc] at this, by have := hc _ _ (h3 2 (by omega)); rwa [← Nat.add_assoc] at this⟩
abbrev gdat (q : ME) : Int × Bool × List Int := (q.1.addr, q.1.down, q.1.bs)
set_option maxHeartbeats 2000000 in
set_option maxRecDepth 100000 in
theorem gsame_any (A1 A2 : Option Addr) (n m c1 c2 : Nat) (G1 G2 : List ME) (w : World) (h1 : GRead w A1 G1) (h2 : GRead w A2 G2) (hn : n = G1.length) (hm : m = G2.length) (he : G1.map gdat = G2.map gdat) (hl : G1.length < 1000000) (hb : ∀ q ∈ G1, q.1.bs.length ≤ 1000000) :
    Calls Try.prog 20 #[.slice A1 n c1, .slice A2 m c2] w fun e w' => e = .returned (.bool true) ∧ Below w.heap.size w w' := by
  have hlen : G2.length = G1.length := by have := congrArg List.length he; simpa using this.symm
  obtain rfl : m = n := by omega
  have HN := Lib.hid hn
  have HE := Lib.hid he
  have HL := Lib.hid hlen
  have t0 : ((m : Int) != (m : Int)) = false := by simp
  have hm1 : m < 1000000 := by omega
  clear hn hm he hlen hl
  go_enter Try.func20, Try.ntmps20
  go_wp2_with fail
  go_loopw [13] (fun i wr => ∃ k : Nat, k ≤ m ∧ i = .int .i64 k ∧ Below w.heap.size w wr) (fun i _ => m - (intOf i).toNat)
  case atStart => exact ⟨0, by omega, rfl, Below.refl _ _⟩
  case round =>
    obtain ⟨k, hk, rfl, hbw⟩ := hrel
    have HB := Lib.hid hbw
    clear hbw
    by_cases hlt : k < m
    · obtain ⟨q1, hq1⟩ : ∃ q, G1[k]? = some q := ⟨_, List.getElem?_eq_getElem (by have := HN.out; omega)⟩
      obtain ⟨q2, hq2⟩ : ∃ q, G2[k]? = some q := ⟨_, List.getElem?_eq_getElem (by have := HN.out; have := HL.out; omega)⟩
      have e12 : gdat q1 = gdat q2 := by
        have := congrArg (fun l => l[k]?) HE.out
        simp only [List.getElem?_map, hq1, hq2, Option.map_some] at this
        exact Option.some.inj this
      obtain ⟨⟨d1, m1, a1, o1, b1⟩, v1⟩ := q1
      obtain ⟨⟨d2, m2, a2, o2, b2⟩, v2⟩ := q2
      simp only [gdat, Prod.mk.injEq] at e12
      obtain ⟨rfl, rfl, rfl⟩ := e12
      obtain ⟨x1, y1, rfl, p0, p1, p2⟩ := (h1.under HB.out).cells hq1
      obtain ⟨x2, y2, rfl, r0, r1, r2⟩ := (h2.under HB.out).cells hq2
      have hbl := hb _ (List.mem_of_getElem? hq1)
      have hSame := fun n => sameB_any v1.1 v2.1 v1.2 v2.2 b1 b1 (wr.drewN n) (((h1.under HB.out).bytes _ (List.mem_of_getElem? hq1)).drewN n) (((h2.under HB.out).bytes _ (List.mem_of_getElem? hq2)).drewN n) (by simp only at hbl; omega) (by simp only at hbl; omega)
      have e0 : decide (b1 = b1) = true := by simp
      simp only [e0] at hSame
      have HS := Lib.hid hSame
      have t1 : (a1 != a1) = false := by simp
      have t2 : (o1 != o1) = false := by cases o1 <;> rfl
      clear hq1 hq2 hSame e0 hbl
      have i1 : (k : Int) < (m : Int) := by omega
      go_upto_region 6 with (fail)
      go_quiet ((go_at_call 11; exact Calls.quiet_of (HS.out _)))
      go_wp2_with fail
      go_roundw
      case rel => exact ⟨k + 1, by omega, by go_num, below_drewN HB.out _⟩
      case measure => simp [intOf]; omega
    · go_wp2_with fail
      go_ret
      exact ⟨rfl, HB.out⟩
end Go.Proofs.Ytkodmoeohffjhaa
