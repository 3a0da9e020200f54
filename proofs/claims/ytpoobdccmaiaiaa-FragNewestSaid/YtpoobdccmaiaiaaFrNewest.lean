/- The walk of the law FragNewest. -/
import Derived.Test.YtpoobdccmaiaiaaFrBack
import Derived.Test.YtpoobdccmaiaiaaFrOpen
namespace Go.Proofs.Ytpoobdccmaiaiaa
open Go.RowKit
open Frag
set_option linter.unusedVariables false
set_option linter.unusedSimpArgs false

namespace Frag
def Low (id : Int) (s : JS) : Prop := s.any = false ∨ s.id < id
theorem Low.tail {id : Int} {s : JS} (p : PV) (h : s.id < id) : (s.tail p).2.id < id := by
  unfold JS.tail
  split
  · exact h
  · split <;> exact h
theorem Low.take {id : Int} {s : JS} (h : Low id s) (p : PV) (hp : p.id < id) : Low id (s.take p).2 := by
  unfold JS.take
  cases hm : mayP p
  · exact h
  · simp only [Bool.true_eq_false, if_false]
    split
    · exact h
    · split
      · exact .inr (Low.tail p hp)
      · rename_i _ h2
        split
        · exact h
        · rcases h with h | h
          · simp [h] at h2
          · exact .inr (Low.tail p h)
/-- A part of a lesser number is refused. -/
theorem BInv.late {id : Int} {b : List Int} {n : Nat} {s : JS} {seen : List Int} (h : BInv id b n s seen) (hs : seen ≠ []) (p : PV) (hp : p.id < id) : (s.take p).2 = s ∧ (s.take p).1.ok = false ∧ (s.take p).1.out = [] := by
  rcases h.state with ⟨rfl, _⟩ | ⟨_, ha, hid, _, _⟩
  · exact absurd rfl hs
  · unfold JS.take
    cases hm : mayP p
    · exact ⟨rfl, rfl, rfl⟩
    · simp only [Bool.true_eq_false, if_false]
      rw [if_pos (by simp [ha, hid, hp])]
      exact ⟨rfl, rfl, rfl⟩
def upto (i : Nat) : List Int := (List.range i).map fun k : Nat => (k : Int)
theorem upto_succ (i : Nat) : upto (i + 1) = upto i ++ [(i : Int)] := by unfold upto; rw [List.range_succ, List.map_append]; rfl
theorem not_upto (i : Nat) : ¬ (i : Int) ∈ upto i := by
  intro h
  obtain ⟨x, hx, e⟩ := List.mem_map.1 h
  have := List.mem_range.1 hx
  omega
theorem upto_len (i : Nat) : (upto i).length = i := by simp [upto]
end Frag
theorem Parts.span {lo hi : Nat} {w w' : World} {n c : Nat} {A : Option Addr} {L : List (PV × Value)} (h : Parts w lo (.slice A n c) L) (hn : n = L.length) (hs : Span lo hi w w') (hz : w.heap.size ≤ hi) : PartsR w' A L :=
  Parts.read (w := w') (base := lo) (c := c) (n := n) ⟨hs.row h.row hz, fun q hq => hs.own (h.own q hq) hz, h.apart⟩ hn
/-- Bytes that can be read lie in no part's box. -/
theorem ReadI.box {w w' : World} {g : Nat} {p : PV} {A2 : Option Addr} {n c : Nat} (h : Blk w g 34 (partC p A2 n c)) {A : Option Addr} {zs : List Int} (hr : ReadI w .u8 A zs) (k : Keeps (fun i => i = g) w w') : ReadI w' .u8 A zs := by
  by_cases hz : zs = []
  · subst hz; exact ReadI.nil _ _ _
  · refine k.readI hr (fun b o hA hb => ?_)
    obtain ⟨b', o', e, hc⟩ := hr hz
    rw [hA] at e
    injection e with e
    injection e with e1 e2
    subst e1 e2
    have h0 := hc 0 (List.length_pos_iff.2 hz)
    subst hb
    rw [h.cell] at h0
    match o, h0 with
    | 0, h0 => simp at h0
    | 1, h0 => simp at h0
    | 2, h0 => simp at h0
    | 3, h0 => simp at h0
    | n + 4, h0 => simp at h0

/-- What the law holds between its calls: the joiner, the late part's box, the parts of b (laid ahead of w1), all that came in. -/
structure NRel (w w1 : World) (late : PV) (s : JS) (wr : World) : Prop where
  j : ∃ E, JOk s ∧ Jn wr (w1.heap.size + 2) (w1.heap.size + 1) w1.heap.size s E
  box : ∃ B c, Blk wr w.heap.size 34 (partC late B late.bs.length c) ∧ ReadI wr .u8 B late.bs
  span : Span (w.heap.size + 1) w1.heap.size w1 wr
  below : Below w.heap.size w wr
  size : w1.heap.size + 2 ≤ wr.heap.size
theorem NRel.under {w w1 : World} {late : PV} {s : JS} {wr w' : World} (h : NRel w w1 late s wr) (hb : Below wr.heap.size wr w') : NRel w w1 late s w' := by
  obtain ⟨E, h1, h2⟩ := h.j
  obtain ⟨B, c, h3, h4⟩ := h.box
  exact ⟨⟨E, h1, h2.under hb⟩, ⟨B, c, h3.under hb, h4.under hb⟩, h.span.under hb (by have := h.size; omega), h.below.trans (hb.mono h.below.size), Nat.le_trans h.size hb.size⟩
/-- Behind a Take, whose part was boxed anew or lies where it lay. -/
theorem NRel.took {w w1 : World} {late : PV} {s s' : JS} {wr w' : World} {E' : List (Int × Value × List Int)} (h : NRel w w1 late s wr) (hw1 : w.heap.size < w1.heap.size) (k : Keeps (fun i => i = w1.heap.size + 1 ∨ i = w1.heap.size) wr w') (hok : JOk s') (hJ : Jn w' (w1.heap.size + 2) (w1.heap.size + 1) w1.heap.size s' E') : NRel w w1 late s' w' := by
  obtain ⟨E, h1, h2⟩ := h.j
  obtain ⟨B, c, h3, h4⟩ := h.box
  exact ⟨⟨E', hok, hJ⟩, ⟨B, c, k.blk h3 (by omega), h2.readI h4 k⟩, h.span.keeps k (by have := h.size; omega) (fun i _ _ => by omega), k.below h.below h.below.size (fun g hg => by omega), Nat.le_trans h.size k.size⟩

/-- The late part's box is given other bytes, the same. -/
theorem NRel.stored {w w1 : World} {late : PV} {s : JS} {wr : World} (h : NRel w w1 late s wr) (hw1 : w.heap.size + 1 ≤ w1.heap.size) (A : Option Addr) (c : Nat) {base : Nat} (ho : OwnI wr base 5 .u8 (.slice A late.bs.length c) late.bs) (hb : w.heap.size < base) :
    NRel w w1 late s (wr.setCell ⟨w.heap.size, 3, none⟩ (.slice A late.bs.length c)) := by
  obtain ⟨E, h1, h2⟩ := h.j
  obtain ⟨B, c', h3, h4⟩ := h.box
  have k : Keeps (fun i => i = w.heap.size) wr (wr.setCell ⟨w.heap.size, 3, none⟩ (.slice A late.bs.length c)) := Keeps.setCell (S := fun i => i = w.heap.size) (p := ⟨w.heap.size, 3, none⟩) (Keeps.refl _ _) (.inl rfl) _
  have hz := h.size
  exact ⟨⟨E, h1, h2.keeps k (by omega) (by omega) (fun e he g hg => by have := ((h2.own e he).lt g hg).1; omega)⟩, ⟨A, c, h3.s4_3 _, OwnI.read (k.own ho (fun g hg => by have := (ho.lt g hg).1; omega))⟩, h.span.setCell (.inl (by simp)) _, h.below.setCell (Nat.le_refl _) _, Nat.le_trans h.size k.size⟩
/-- Ahead of the part itself: the late one has been tried. -/
def NMid (id : Int) (b : List Int) (w w1 : World) (late : PV) (k : Nat) (t : PV) (B4 : Option Addr) (c4 : Nat) (g : Nat) (wx : World) : Prop :=
  ∃ s, BInv id b (count b) s (upto k) ∧ NRel w w1 late s wx ∧ Blk wx g 34 (partC t B4 t.bs.length c4) ∧ ReadI wx .u8 B4 t.bs ∧ w1.heap.size + 2 ≤ g

set_option maxRecDepth 100000 in
set_option maxHeartbeats 4000000 in
theorem newest_any (C : Option Addr) (m d : Nat) (M : List (PV × Value)) (id : Int) (A : Option Addr) (n c : Nat) (b : List Int) (late : PV) (B0 : Option Addr) (c0 : Nat) (w : World) (hm : m = M.length) (hmb : m ≤ 9223372036854775807) (hM : PartsR w C M) (hMs : ∀ q ∈ M, q.1.bs.length ≤ 9223372036854775807)
    (hn : n = b.length) (hcap : n ≤ c) (hbig : n ≤ 9000000000000000000) (hx : ReadI w .u8 A b) (hlb : late.bs.length ≤ 9223372036854775807) (hlr : ReadI w .u8 B0 late.bs) :
    Calls Try.prog 6 #[.slice C m d, .int .u32 id, .slice A n c, partV late B0 late.bs.length c0] w fun e w' => e = .returned (.bool true) ∧ Below w.heap.size w w' := by
  subst hn hm
  have HX := Lib.hid hx
  have HM := Lib.hid hM
  have HMS := Lib.hid hMs
  have HLR := Lib.hid hlr
  clear hx hM hMs hlr
  have hb0 := below_alloc (Below.refl w.heap.size w) (.cells (partC late B0 late.bs.length c0) 34)
  have hx0 : Blk (w.alloc (.cells (partC late B0 late.bs.length c0) 34)) w.heap.size 34 (partC late B0 late.bs.length c0) := Blk.new _ _ _
  have HB0 := Lib.hid hb0
  have HX0 := Lib.hid hx0
  clear hb0 hx0
  by_cases hskip : 8192 < b.length ∨ 1000 < late.bs.length
  · rcases Nat.lt_or_ge 8192 b.length with hlong | hlong
    · have t1 : decide (8192 < (b.length : Int)) = true := decide_eq_true (by omega)
      go_enter Try.func6, Try.ntmps6
      go_wp2_with fail
      rcases Nat.lt_or_ge 57344 b.length with hfit | hfit
      · refine (split_long id A b.length c _ hfit hbig).mono ?_
        rintro e w1 ⟨rfl, rfl⟩
        go_wp2_with fail
        refine (new_any _).mono ?_
        rintro e w2 ⟨rfl, _, b2⟩
        have B2 := Lib.hid (HB0.out.trans (b2.mono HB0.out.size))
        skip
        clear b2
        go_wp2_with fail
        refine (fixed_any w2).mono ?_
        rintro e w3 ⟨rfl, b3⟩
        have B3 := Lib.hid (B2.out.trans (b3.mono B2.out.size))
        clear b3
        go_wp2_with fail
        go_ret
        exact ⟨rfl, B3.out⟩
      · refine (split_any id A b.length c b _ rfl hcap (HX.out.under HB0.out) hfit).mono ?_
        rintro e w1 ⟨A1, c1, L, rfl, _, _, b1⟩
        have B1 := Lib.hid (HB0.out.trans (b1.mono (by simp)))
        clear b1
        go_wp2_with fail
        refine (new_any w1).mono ?_
        rintro e w2 ⟨rfl, _, b2⟩
        have B2 := Lib.hid (B1.out.trans (b2.mono B1.out.size))
        skip
        clear b2
        go_wp2_with fail
        refine (fixed_any w2).mono ?_
        rintro e w3 ⟨rfl, b3⟩
        have B3 := Lib.hid (B2.out.trans (b3.mono B2.out.size))
        clear b3
        go_wp2_with fail
        go_ret
        exact ⟨rfl, B3.out⟩
    · have t1 : decide (8192 < (b.length : Int)) = false := decide_eq_false (by omega)
      have t3 : decide (1000 < (late.bs.length : Int)) = true := decide_eq_true (by omega)
      go_enter Try.func6, Try.ntmps6
      go_wp2_with fail
      refine (split_any id A b.length c b _ rfl hcap (HX.out.under HB0.out) (by omega)).mono ?_
      rintro e w1 ⟨A1, c1, L, rfl, hL, _, b1⟩
      have hll : L.length = count b := by have := congrArg List.length hL; simpa [parts_len] using this
      have hl1 : L.length ≤ 128 ∧ 1 ≤ L.length := by rw [hll]; unfold count; omega
      have t2 : ((L.length : Int) == 0) = false := beq_eq_false_iff_ne.2 (by omega)
      have B1 := Lib.hid (HB0.out.trans (b1.mono (by simp)))
      have X1 := Lib.hid (HX0.out.under b1)
      clear b1 hL hll
      go_wp2_with fail
      refine (new_any w1).mono ?_
      rintro e w2 ⟨rfl, _, b2⟩
      have B2 := Lib.hid (B1.out.trans (b2.mono B1.out.size))
      have x3 : w2.cell? ⟨w.heap.size, 3, none⟩ = some (.slice B0 late.bs.length c0) := (X1.out.under b2).cell 3
      clear b2
      go_wp2_with fail
      refine (fixed_any w2).mono ?_
      rintro e w3 ⟨rfl, b3⟩
      have B3 := Lib.hid (B2.out.trans (b3.mono B2.out.size))
      clear b3
      go_wp2_with fail
      go_ret
      exact ⟨rfl, B3.out⟩
  · have hsk : b.length ≤ 8192 ∧ late.bs.length ≤ 1000 := by omega
    clear hskip
    have t1 : decide (8192 < (b.length : Int)) = false := decide_eq_false (by omega)
    have t3 : decide (1000 < (late.bs.length : Int)) = false := decide_eq_false (by omega)
    go_enter Try.func6, Try.ntmps6
    go_wp2_with fail
    refine (split_any id A b.length c b _ rfl hcap (HX.out.under HB0.out) (by omega)).mono ?_
    rintro e w1 ⟨A1, c1, L, rfl, hL, hP, b1⟩
    have hcnt : count b ≤ 128 ∧ 1 ≤ count b := by unfold count; omega
    have hll : L.length = count b := by have := congrArg List.length hL; simpa [parts_len] using this
    have hz1 : w.heap.size + 1 ≤ w1.heap.size := by have := b1.size; simpa using this
    have hP' : Parts w1 (w.heap.size + 1) (.slice A1 L.length c1) L := hP.mono (by simp)
    have HP := Lib.hid hP'
    have HL := Lib.hid hL
    have B1 := Lib.hid (HB0.out.trans (b1.mono (by simp)))
    have X1 := Lib.hid (HX0.out.under b1)
    have HLL := Lib.hid hll
    have hl1 : L.length ≤ 128 ∧ 1 ≤ L.length := by omega
    clear hP hP' hL b1 hll
    go_wp2_with fail
    refine (new_any w1).mono ?_
    rintro e w2 ⟨rfl, hJ, b2⟩
    have hN2 : NRel w w1 late JS.start w2 := ⟨⟨[], JOk.start, hJ⟩, ⟨B0, c0, X1.out.under b2, HLR.out.under (B1.out.trans (b2.mono B1.out.size))⟩, (Span.refl _ _ w1).under b2 (Nat.le_refl _), B1.out.trans (b2.mono B1.out.size), hJ.size⟩
    have t2 : ((L.length : Int) == 0) = false := beq_eq_false_iff_ne.2 (by omega)
    have x3 : w2.cell? ⟨w.heap.size, 3, none⟩ = some (.slice B0 late.bs.length c0) := (X1.out.under b2).cell 3
    have HN2 := Lib.hid hN2
    clear hN2 hJ b2
    go_upto_block 0 with (fail)
    go_cut [12, 13] from 58 to 78 (fun s12 s13 wr => ∃ s, Low id s ∧ NRel w w1 late s wr)
    case first =>
      go_wp2_with fail
      go_loopw [58] (fun i wr => ∃ (k : Nat) (s : JS), k ≤ M.length ∧ i = .int .i64 k ∧ Low id s ∧ NRel w w1 late s wr) (fun i _ => M.length - (intOf i).toNat)
      case atStart => exact ⟨0, JS.start, Nat.zero_le _, rfl, .inl rfl, HN2.out⟩
      case round =>
        obtain ⟨k, s, hk, rfl, hlow, hN⟩ := hrel
        have HN := Lib.hid hN
        have HLOW := Lib.hid hlow
        clear hN hlow
        by_cases hlt : k < M.length
        · have i1 : (k : Int) < (M.length : Int) := by omega
          have hMw := HM.out.under HN.out.below
          obtain ⟨t, ht⟩ : ∃ t, t = M[k].1 := ⟨_, rfl⟩
          have htl : t.bs.length ≤ 9223372036854775807 := by rw [ht]; exact HMS.out _ (List.getElem_mem hlt)
          obtain ⟨gb, o, B4, c4, rfl, q0, q1, q2, q3, hr4⟩ := part_at hMw k hlt t ht.symm
          have HR4 := Lib.hid hr4
          clear hr4 ht hMw
          by_cases h100 : 100 < k
          · have d100 : decide (100 < (k : Int)) = true := decide_eq_true (by omega)
            go_wp2_with fail
            go_meet
            case rel => exact ⟨s, HLOW.out, HN.out.under (below_alloc (Below.refl _ _) _)⟩
          · have d100 : decide (100 < (k : Int)) = false := decide_eq_false (by omega)
            by_cases hgo : t.id < id
            · have d5 : decide (t.id < id) = true := decide_eq_true hgo
              by_cases hsm : t.bs.length ≤ 1000
              · have d6 : decide ((t.bs.length : Int) ≤ 1000) = true := decide_eq_true (by omega)
                go_wp2_with fail
                obtain ⟨E, hok, hJ⟩ := HN.out.j
                refine (take_any t B4 t.bs.length c4 _ (w1.heap.size + 2) (w1.heap.size + 1) w1.heap.size s E (hJ.under (below_alloc (Below.refl _ _) _)) hok rfl htl (HR4.out.under (below_alloc (Below.refl _ _) _))).mono ?_
                rintro e w4 ⟨A5, c5, E5, rfl, ho5, hJ5, k5⟩
                have hN4 := (HN.out.under (below_alloc (Below.refl _ _) (.cells (partC t B4 t.bs.length c4) 34))).took hz1 k5 (JOk.take s t hok) hJ5
                have HN4 := Lib.hid hN4
                have HLOW4 := Lib.hid (HLOW.out.take t hgo)
                clear hN4 hJ ho5 hJ5 k5 hok q0 q1 q2 q3
                go_wp2_with fail
                go_roundw
                case rel => exact ⟨k + 1, _, by omega, by go_num, HLOW4.out, HN4.out⟩
                case measure => simp [intOf]; omega
              · have d6 : decide ((t.bs.length : Int) ≤ 1000) = false := decide_eq_false (by omega)
                go_wp2_with fail
                go_roundw
                case rel => exact ⟨k + 1, s, by omega, by go_num, HLOW.out, HN.out.under (below_alloc (Below.refl _ _) _)⟩
                case measure => simp [intOf]; omega
            · have d5 : decide (t.id < id) = false := decide_eq_false hgo
              go_wp2_with fail
              go_roundw
              case rel => exact ⟨k + 1, s, by omega, by go_num, HLOW.out, HN.out.under (below_alloc (Below.refl _ _) _)⟩
              case measure => simp [intOf]; omega
        · go_wp2_with fail
          go_meet
          case rel => exact ⟨s, HLOW.out, HN.out⟩
    case rest =>
      obtain ⟨s0, hlow0, hN0⟩ := hcut
      have HN0 := Lib.hid hN0
      have HLOW0 := Lib.hid hlow0
      clear hN0 hlow0 x3 t2
      go_wp2_with fail
      go_loopw [81] (fun i wr => ∃ (k : Nat) (s : JS), k ≤ L.length ∧ i = .int .i64 k ∧ BInv id b (count b) s (upto k) ∧ NRel w w1 late s wr) (fun i _ => L.length - (intOf i).toNat)
      case atStart => exact ⟨0, s0, Nat.zero_le _, rfl, ⟨List.nodup_nil, (fun _ h => by cases h), .inl ⟨rfl, HLOW0.out⟩⟩, HN0.out⟩
      case round =>
        obtain ⟨k, s, hk, rfl, hI, hN⟩ := hrel
        have HN := Lib.hid hN
        have HI := Lib.hid hI
        have hzN := hN.size
        clear hN hI
        have hPR := HP.out.span rfl HN.out.span (Nat.le_refl _)
        by_cases hlt : k < L.length
        · have i1 : (k : Int) < (L.length : Int) := by omega
          have hxc : k < count b := by have := HLL.out; omega
          obtain ⟨t, ht⟩ : ∃ t, t = L[k].1 := ⟨_, rfl⟩
          have hpx : t = ⟨id, k, count b, chunk b k⟩ := by
            have h1 : (L.map (·.1))[k]? = (parts id b (count b) (count b))[k]? := by rw [HL.out]
            have h2 : L[k].1 = ⟨id, k, count b, chunk b k⟩ := by simpa [hlt, parts, hxc] using h1
            exact ht.trans h2
          have hcl : t.bs.length ≤ 448 := by rw [hpx]; simp only []; unfold chunk; rw [List.length_take]; omega
          obtain ⟨gb, o, B4, c4, rfl, q0, q1, q2, q3, hr4⟩ := part_at hPR k hlt t ht.symm
          have HTP := Lib.hid hpx
          have HR4 := Lib.hid hr4
          -- the part's own box
          have hw5 := below_alloc (Below.refl wr.heap.size wr) (.cells (partC t B4 t.bs.length c4) 34)
          have hpb : Blk (wr.alloc (.cells (partC t B4 t.bs.length c4) 34)) wr.heap.size 34 (partC t B4 t.bs.length c4) := Blk.new _ _ _
          obtain ⟨B6, c6, hbox, hbr⟩ := (HN.out.under hw5).box
          have l0 : (wr.alloc (.cells (partC t B4 t.bs.length c4) 34)).cell? ⟨w.heap.size, 0, none⟩ = some (.int .u32 late.id) := hbox.cell 0
          have l3 : (wr.alloc (.cells (partC t B4 t.bs.length c4) 34)).cell? ⟨w.heap.size, 3, none⟩ = some (.slice B6 late.bs.length c6) := hbox.cell 3
          have HW5 := Lib.hid hw5
          have HPB := Lib.hid hpb
          have HBOX := Lib.hid hbox
          have HBR := Lib.hid hbr
          clear hpx ht hr4 hw5 hpb hbox hbr hPR
          have hd5 : decide (late.id < id) = true ∨ decide (late.id < id) = false := by cases decide (late.id < id) <;> simp
          go_upto_if 89 with (fail)
          go_cut [16, 17, 18] from 82 to 110 (fun _ _ _ wx => NMid id b w w1 late k t B4 c4 wr.heap.size wx)
          case first =>
            rcases hd5 with d5 | d5
            · have hlate := of_decide_eq_true d5
              go_wp2_with fail
              refine (copy_any B6 late.bs.length c6 late.bs _ rfl HBR.out (by omega)).mono ?_
              rintro e w6 ⟨A6, e6, rfl, o6, b6⟩
              have hx6 := HBOX.out.under b6
              have y3 : w6.cell? ⟨w.heap.size, 3, none⟩ = some (.slice B6 late.bs.length c6) := hx6.cell 3
              have fy3 : w6.frozen? ⟨w.heap.size, 3, none⟩ = false := hx6.frozen 3
              have y0 : w6.cell? ⟨w.heap.size, 0, none⟩ = some (.int .u32 late.id) := hx6.cell 0
              have y1 : w6.cell? ⟨w.heap.size, 1, none⟩ = some (.int .i64 late.ix) := hx6.cell 1
              have y2 : w6.cell? ⟨w.heap.size, 2, none⟩ = some (.int .i64 late.ct) := hx6.cell 2
              have hN6 := ((HN.out.under HW5.out).under b6).stored hz1 A6 e6 (base := wr.heap.size + 1) (OwnI.mono o6 (by simp)) (by omega)
              have HN6 := Lib.hid hN6
              have hkb : Keeps (fun i => i = w.heap.size) w6 (w6.setCell ⟨w.heap.size, 3, none⟩ (.slice A6 late.bs.length e6)) := Keeps.setCell (S := fun i => i = w.heap.size) (p := ⟨w.heap.size, 3, none⟩) (Keeps.refl _ _) (.inl rfl) _
              have hpb6 := hkb.blk (HPB.out.under b6) (by omega)
              have hr46 := ReadI.box hx6 ((HR4.out.under HW5.out).under b6) hkb
              have HPB6 := Lib.hid hpb6
              have HR46 := Lib.hid hr46
              have hA6 : ReadI (w6.setCell ⟨w.heap.size, 3, none⟩ (.slice A6 late.bs.length e6)) .u8 A6 late.bs := OwnI.read (hkb.own (OwnI.mono o6 (base' := wr.heap.size + 1) (by simp)) (fun g hg => by have := ((OwnI.mono o6 (base' := wr.heap.size + 1) (by simp)).lt g hg).1; omega))
              have HA6 := Lib.hid hA6
              clear o6 b6 hx6 hN6 hkb hpb6 hr46 hA6 q0 q1 q2 q3
              go_wp2_with fail
              obtain ⟨E, hok, hJ⟩ := HN6.out.j
              refine (take_any late A6 late.bs.length e6 _ (w1.heap.size + 2) (w1.heap.size + 1) w1.heap.size s E hJ hok rfl (by omega) HA6.out).mono ?_
              rintro e w8 ⟨A8, c8, E8, rfl, ho8, hJ8, k8⟩
              have hN8 := HN6.out.took hz1 k8 (JOk.take s late hok) hJ8
              have hpb8 := k8.blk HPB6.out (by omega)
              have hr8 := hJ.readI HR46.out k8
              have HN8 := Lib.hid hN8
              have HPB8 := Lib.hid hpb8
              have HR8 := Lib.hid hr8
              rcases Nat.eq_zero_or_pos k with hk0 | hk0
              · subst hk0
                have hI8 : BInv id b (count b) (s.take late).2 (upto 0) := by
                  refine ⟨List.nodup_nil, (fun _ h => by cases h), .inl ⟨rfl, ?_⟩⟩
                  rcases HI.out.state with ⟨_, h⟩ | ⟨h, _⟩
                  · exact Low.take h late hlate
                  · exact absurd rfl h
                have HI8 := Lib.hid hI8
                clear hI8 hJ ho8 hJ8 k8 hok hN8 hpb8 hr8 y0 y1 y2 y3 fy3
                go_wp2_with fail
                go_meet
                case rel => exact ⟨_, HI8.out, HN8.out, HPB8.out, HR8.out, by omega⟩
              · obtain ⟨e1, e2, e3⟩ := HI.out.late (by intro h; have := congrArg List.length h; rw [upto_len] at this; simp at this; omega) late hlate
                rw [e1] at HN8
                rw [e2, e3]
                have dk : decide (0 < (k : Int)) = true := decide_eq_true (by omega)
                clear hJ ho8 hJ8 k8 hok hN8 hpb8 hr8 y0 y1 y2 y3 fy3 e1 e2 e3
                go_wp2_with fail
                go_meet
                case rel => exact ⟨s, HI.out, HN8.out, HPB8.out, HR8.out, by omega⟩
            · have hlate := of_decide_eq_false d5
              go_wp2_with fail
              go_meet
              case rel => exact ⟨s, HI.out, HN.out.under HW5.out, HPB.out, HR4.out.under HW5.out, by omega⟩
          case rest =>
            obtain ⟨s5, hI5, hN5, hpb5, hr5, hzz⟩ := hcut
            have r0 : wc.cell? ⟨wr.heap.size, 0, none⟩ = some (.int .u32 t.id) := hpb5.cell 0
            have r1 : wc.cell? ⟨wr.heap.size, 1, none⟩ = some (.int .i64 t.ix) := hpb5.cell 1
            have r2 : wc.cell? ⟨wr.heap.size, 2, none⟩ = some (.int .i64 t.ct) := hpb5.cell 2
            have r3 : wc.cell? ⟨wr.heap.size, 3, none⟩ = some (.slice B4 t.bs.length c4) := hpb5.cell 3
            have HN5 := Lib.hid hN5
            have HI5 := Lib.hid hI5
            have HR5 := Lib.hid hr5
            clear hN5 hI5 hr5 hpb5 q0 q1 q2 q3 l0 l3 hd5
            go_wp2_with fail
            obtain ⟨E, hok, hJ⟩ := HN5.out.j
            refine (take_any t B4 t.bs.length c4 _ (w1.heap.size + 2) (w1.heap.size + 1) w1.heap.size s5 E hJ hok rfl (by omega) HR5.out).mono ?_
            rintro e w9 ⟨A9, c9, E9, rfl, ho9, hJ9, k9⟩
            have hN9 := HN5.out.took hz1 k9 (JOk.take s5 t hok) hJ9
            obtain ⟨s', hI', hag⟩ := HI5.out.next (by omega) k hxc (not_upto k)
            rw [← HTP.out] at hag
            rw [← upto_succ] at hI'
            rw [upto_len] at hag
            rw [hag] at ho9 hN9 ⊢
            have HN9 := Lib.hid hN9
            have HI9 := Lib.hid hI'
            have dll : ((L.length : Int) - 1) = ((L.length - 1 : Nat) : Int) := by omega
            by_cases hlast : k + 1 = count b
            · rw [if_pos hlast] at ho9 ⊢
              have dl : ((k : Int) == (L.length : Int) - 1) = true := by rw [HLL.out]; simp; omega
              have hsame := sameB_dec A9 A c9 c b.length b.length b b w9 true rfl rfl ho9.read (HX.out.under HN9.out.below) (by omega) (by omega) (by simp)
              have HSAME := Lib.hid hsame
              clear hsame hag ho9 hJ9 hJ k9 hok hN9 hI' hlast dll r0 r1 r2 r3
              go_wp2_with fail
              refine HSAME.out.mono ?_
              rintro e w10 ⟨rfl, b10⟩
              have HN10 := Lib.hid (HN9.out.under b10)
              clear b10
              go_wp2_with fail
              go_roundw
              case rel => exact ⟨k + 1, s', by omega, by go_num, HI9.out, HN10.out⟩
              case measure => simp [intOf]; omega
            · rw [if_neg hlast] at ho9 ⊢
              have dl : ((k : Int) == (L.length : Int) - 1) = false := by rw [HLL.out]; apply beq_eq_false_iff_ne.2; omega
              clear hag ho9 hJ9 hJ k9 hok hN9 hI' hlast dll r0 r1 r2 r3
              go_wp2_with fail
              go_roundw
              case rel => exact ⟨k + 1, s', by omega, by go_num, HI9.out, HN9.out⟩
              case measure => simp [intOf]; omega
        · obtain ⟨t, ht⟩ : ∃ t, t = (L[0]'(by omega)).1 := ⟨_, rfl⟩
          obtain ⟨gb, o, B4, c4, rfl, q0, q1, q2, q3, hr4⟩ := part_at hPR 0 (by omega) t ht.symm
          simp only [Nat.zero_mul, Nat.add_zero] at q0 q1 q2 q3
          clear hPR ht hr4
          go_wp2_with fail
          refine (take_nil t B4 t.bs.length c4 wr).mono ?_
          rintro e w11 ⟨rfl, b11⟩
          have B11 := Lib.hid (HN.out.below.trans (b11.mono HN.out.below.size))
          clear b11
          go_wp2_with fail
          refine (fixed_any w11).mono ?_
          rintro e w12 ⟨rfl, b12⟩
          have B12 := Lib.hid (B11.out.trans (b12.mono B11.out.size))
          clear b12
          go_wp2_with fail
          go_ret
          exact ⟨rfl, B12.out⟩
end Go.Proofs.Ytpoobdccmaiaiaa
