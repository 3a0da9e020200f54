/- The walk of the law FragBack. -/
import Derived.Test.YtpoobdccmaiaiaaFrFixed
import Derived.Test.YtpoobdccmaiaiaaFrLawM
import Derived.Test.YtpoobdccmaiaiaaFrSplits
namespace Go.Proofs.Ytpoobdccmaiaiaa
open Go.RowKit
open Frag
set_option linter.unusedVariables false
set_option linter.unusedSimpArgs false

theorem MapS.apart {w : World} {b base size n : Nat} {q : IntKind} {es : List (Int × Value)} {e : TypeId} {v : Value} {xs : List Value} (h : MapS w b q es) (ho : OwnR w base e size v n xs) : ∀ g, v.ownBlock = some g → ¬ g = b := fun g hg e1 => by
  subst e1
  obtain ⟨arr, clock, hm, _⟩ := h
  rcases ho.2 with ⟨rfl, _⟩ | ⟨g', cap, cur, rfl, _, hh, _⟩
  · cases hg
  · simp [Value.ownBlock] at hg
    subst hg
    rw [hm] at hh
    cases hh
def marks (seen : List Int) : List (Int × Value) := seen.map fun i => (i, .int .i64 1)
theorem lk_marks (seen : List Int) (k : Int) : lk (marks seen) k = if k ∈ seen then some (.int .i64 1) else none := by
  unfold lk marks
  rw [List.find?_map]
  simp only [Function.comp_def]
  cases hf : seen.find? (fun x => x == k) with
  | none =>
    have := List.find?_eq_none.1 hf
    rw [if_neg (fun hm => by simpa using this _ hm)]
    simp [hf]
  | some x =>
    have h1 := List.find?_some hf
    simp at h1
    subst h1
    rw [if_pos (List.mem_of_find?_eq_some hf)]
    simp [hf]
/-- What a round of the law holds: the joiner, the marks, the parts. -/
structure BRel (id : Int) (b : List Int) (w1 : World) (sb : Nat) (A : Option Addr) (L : List (PV × Value)) (wr : World) (seen : List Int) : Prop where
  j : ∃ s E, BInv id b (count b) s seen ∧ JOk s ∧ Jn wr (w1.heap.size + 2) (w1.heap.size + 1) w1.heap.size s E
  map : MapS wr sb .i64 (marks seen)
  below : Below w1.heap.size w1 wr
  parts : PartsR wr A L
  le : seen.length ≤ count b
theorem BRel.under {id : Int} {b : List Int} {w1 : World} {sb : Nat} {A : Option Addr} {L : List (PV × Value)} {wr w' : World} {seen : List Int} (h : BRel id b w1 sb A L wr seen) (hb : Below wr.heap.size wr w') : BRel id b w1 sb A L w' seen := by
  obtain ⟨s, E, h1, h2, h3⟩ := h.j
  exact ⟨⟨s, E, h1, h2, h3.under hb⟩, h.map.under hb, h.below.trans (hb.mono h.below.size), h.parts.under hb, h.le⟩

set_option maxRecDepth 100000 in
set_option maxHeartbeats 4000000 in
theorem back_any (id : Int) (A : Option Addr) (n c : Nat) (b : List Int) (C : Option Addr) (m d : Nat) (ord : List Int) (w : World) (hn : n = b.length) (hcap : n ≤ c) (hbig : n ≤ 9000000000000000000) (hx : ReadI w .u8 A b) (hm : m = ord.length) (hmb : m ≤ 9000000000000000000) (hy : ReadI w .u8 C ord) (hr : ∀ x ∈ ord, 0 ≤ x ∧ x < 256) :
    Calls Try.prog 5 #[.int .u32 id, .slice A n c, .slice C m d] w fun e w' => e = .returned (.bool true) ∧ Below w.heap.size w w' := by
  subst hn hm
  have HX := Lib.hid hx
  have HY := Lib.hid hy
  have HR := Lib.hid hr
  clear hx hy hr
  rcases Nat.lt_or_ge 8192 b.length with hlong | hlong
  · -- too long: fixed
    have t1 : decide (8192 < (b.length : Int)) = true := decide_eq_true (by omega)
    go_enter Try.func5, Try.ntmps5
    go_wp2_with fail
    rcases Nat.lt_or_ge 57344 b.length with hfit | hfit
    · refine (split_long id A b.length c w hfit hbig).mono ?_
      rintro e w1 ⟨rfl, rfl⟩
      go_wp2_with fail
      refine (new_any w).mono ?_
      rintro e w2 ⟨rfl, _, b2⟩
      have B2 := Lib.hid b2
      clear b2
      go_wp2_with fail
      refine (fixed_any w2).mono ?_
      rintro e w3 ⟨rfl, b3⟩
      have B3 := Lib.hid (B2.out.trans (b3.mono B2.out.size))
      clear b3
      go_wp2_with fail
      go_ret
      exact ⟨rfl, B3.out⟩
    · refine (split_any id A b.length c b w rfl hcap HX.out hfit).mono ?_
      rintro e w1 ⟨A1, c1, L, rfl, _, _, b1⟩
      have B1 := Lib.hid b1
      clear b1
      go_wp2_with fail
      refine (new_any w1).mono ?_
      rintro e w2 ⟨rfl, _, b2⟩
      have B2 := Lib.hid (B1.out.trans (b2.mono B1.out.size))
      clear b2
      go_wp2_with fail
      refine (fixed_any w2).mono ?_
      rintro e w3 ⟨rfl, b3⟩
      have B3 := Lib.hid (B2.out.trans (b3.mono B2.out.size))
      clear b3
      go_wp2_with fail
      go_ret
      exact ⟨rfl, B3.out⟩
  · have t1 : decide (8192 < (b.length : Int)) = false := decide_eq_false (by omega)
    have hmm := @run_makeMap Try.prog
    go_enter Try.func5, Try.ntmps5
    go_wp2_with fail
    refine (split_any id A b.length c b w rfl hcap HX.out (by omega)).mono ?_
    rintro e w1 ⟨A1, c1, L, rfl, hL, hP, b1⟩
    have hcnt : count b ≤ 128 ∧ 1 ≤ count b := by unfold count; omega
    have hll : L.length = count b := by have := congrArg List.length hL; simpa [parts_len] using this
    have PR := Lib.hid (hP.read rfl)
    have HL := Lib.hid hL
    have B1 := Lib.hid b1
    have HLL := Lib.hid hll
    have hl1 : L.length ≤ 128 ∧ 1 ≤ L.length := by omega
    clear hP hL b1 hll
    go_wp2_with fail
    refine (new_any w1).mono ?_
    rintro e w2 ⟨rfl, hJ, b2⟩
    have HJ := Lib.hid hJ
    have B2 := Lib.hid b2
    have t2 : ((L.length : Int) == 0) = false := beq_eq_false_iff_ne.2 (by omega)
    have hz2 : w1.heap.size + 2 ≤ w2.heap.size := hJ.size
    clear hJ b2
    go_wp2_with fail
    have hs0 : BRel id b w1 w2.heap.size A1 L (w2.alloc (.map #[] 0)) [] :=
      ⟨⟨JS.start, [], ⟨List.nodup_nil, (fun _ h => by cases h), .inl ⟨rfl, .inl rfl⟩⟩, JOk.start, HJ.out.under (below_alloc (Below.refl _ _) _)⟩, MapS.made _ _, B2.out.alloc B2.out.size _, (PR.out.under B2.out).under (below_alloc (Below.refl _ _) _), by simp⟩
    have HS0 := Lib.hid hs0
    clear hs0 hmm
    go_loopw [49] (fun i wr => ∃ (k : Nat) (seen : List Int), k ≤ ord.length ∧ i = .int .i64 k ∧ BRel id b w1 w2.heap.size A1 L wr seen) (fun i _ => ord.length - (intOf i).toNat)
    case atStart => exact ⟨0, [], Nat.zero_le _, rfl, HS0.out⟩
    case round =>
      obtain ⟨k, seen, hk, rfl, hR⟩ := hrel
      have HRR := Lib.hid hR
      clear hR
      have B3 := Lib.hid (B1.out.trans (HRR.out.below.mono B1.out.size))
      by_cases hlt : k < ord.length
      · obtain ⟨cb, co, rfl, hcc⟩ := HY.out (by rintro rfl; simp at hlt)
        have hck := (B3.out.cell (p := ⟨cb, co + k, none⟩) (HY.out.lt (by rintro rfl; simp at hlt) rfl)).trans (hcc k hlt)
        obtain ⟨y, hy256, hyv⟩ : ∃ y : Nat, y < 256 ∧ ord.getD k 0 = (y : Int) := by
          have := HR.out (ord.getD k 0) (by rw [List.getD_eq_getElem?_getD, List.getElem?_eq_getElem hlt]; exact List.getElem_mem hlt)
          exact ⟨(ord.getD k 0).toNat, by omega, by omega⟩
        rw [hyv] at hck
        have i1 : (k : Int) < (ord.length : Int) := by omega
        clear hcc hyv
        by_cases h300 : 300 < k
        · have d300 : decide (300 < (k : Int)) = true := decide_eq_true (by omega)
          go_wp2_with fail
          refine (fixed_any wr).mono ?_
          rintro e w4 ⟨rfl, b4⟩
          go_wp2_with fail
          go_ret
          exact ⟨rfl, B3.out.trans (b4.mono B3.out.size)⟩
        · have d300 : decide (300 < (k : Int)) = false := decide_eq_false (by omega)
          have hyl : y % L.length < L.length := Nat.mod_lt _ (by omega)
          obtain ⟨x, hxe⟩ : ∃ x, x = y % L.length := ⟨_, rfl⟩
          rw [← hxe] at hyl
          have hpx : L[x].1 = ⟨id, x, count b, chunk b x⟩ := by
            have h1 : (L.map (·.1))[x]? = (parts id b (count b) (count b))[x]? := by rw [HL.out]
            have h2 : x < count b := by have := HLL.out; omega
            simpa [hyl, parts, h2] using h1
          obtain ⟨t, ht⟩ : ∃ t, t = L[x].1 := ⟨_, rfl⟩
          have htp := ht.trans hpx
          obtain ⟨gb, o, B4, c4, rfl, q0, q1, q2, q3, hr4⟩ := part_at HRR.out.parts x hyl t ht.symm
          rw [hxe] at q0 q1 q2 q3
          have HXE := Lib.hid hxe
          have HR4 := Lib.hid hr4
          have HTP := Lib.hid htp
          clear hpx hr4 ht htp
          go_wp2_with fail
          have hcl : t.bs.length ≤ 448 := by rw [HTP.out]; simp only []; unfold chunk; rw [List.length_take]; omega
          obtain ⟨⟨s, E, hI, hok, hJ⟩, hM, hbel, hpar, hle⟩ := HRR.out
          have hxc : x < count b := by have := HLL.out; omega
          refine (take_any t B4 t.bs.length c4 _ (w1.heap.size + 2) (w1.heap.size + 1) w1.heap.size s E (hJ.under (below_alloc (Below.refl _ _) _)) hok rfl (by omega) (HR4.out.under (below_alloc (Below.refl _ _) _))).mono ?_
          rintro e w4 ⟨A5, c5, E5, rfl, ho5, hJ5, k5⟩
          have hzr : w2.heap.size < wr.heap.size := hM.lt
          have kr : Keeps (fun i => i = w1.heap.size + 1 ∨ i = w1.heap.size) wr w4 := Keeps.trans (Keeps.under (below_alloc (Below.refl wr.heap.size wr) (.cells (partC t B4 t.bs.length c4) 34)) (fun _ => False) |>.mono (fun _ h => h.elim)) k5 (fun g h _ => h)
          have hM4 : MapS w4 w2.heap.size .i64 (marks seen) := kr.map hM (by omega)
          have hbp := k5.blk (Blk.new wr 34 (partC t B4 t.bs.length c4)) (by omega)
          have p1 : w4.cell? ⟨wr.heap.size, 1, none⟩ = some (.int .i64 t.ix) := hbp.cell 1
          have hb4 : Below w1.heap.size w1 w4 := kr.below hbel hbel.size (fun g h => by omega)
          have hpar4 : PartsR w4 (some ⟨gb, o, none⟩) L := PR.out.under hb4
          have hlook : ∀ v, (if t.ix ∈ seen then some (Value.int .i64 1) else none).getD (.int .i64 0) = v → (Instr.lookup 46 (.map (some w2.heap.size)) (.int .i64 t.ix) false).run Try.prog w4 = .ok v w4 := fun v hv => by
            have := hM4.look (P := Try.prog) (t := 46) (kt := 3) (et := 3) Try.underlying46 Try.underlying3 (z := .int .i64 0) (by kernel_rfl) t.ix false
            rw [lk_marks, hv] at this
            exact this
          have HM4 := Lib.hid hM4
          have HB4 := Lib.hid hb4
          have HPAR4 := Lib.hid hpar4
          have HOK := Lib.hid (JOk.take s t hok)
          have hzw4 := kr.size
          have htx : t.ix = (x : Int) := by rw [HTP.out]
          by_cases hsn : t.ix ∈ seen
          · have hag := hI.again (by omega) x hxc (htx ▸ hsn)
            have hl1' := hlook (.int .i64 1) (by rw [if_pos hsn]; rfl)
            rw [← HTP.out] at hag
            rw [hag] at ho5 hJ5 HOK ⊢
            have hfin : BRel id b w1 w2.heap.size (some ⟨gb, o, none⟩) L w4 seen := ⟨⟨s, E5, hI, HOK.out, hJ5⟩, HM4.out, HB4.out, HPAR4.out, hle⟩
            have HFIN := Lib.hid hfin
            clear hag hlook ho5 hJ5 hI hok hJ hM hbel hpar hM4 hb4 hpar4 kr k5 hbp hfin hsn htx hck q0 q1 q2 q3
            go_wp2_with fail
            go_roundw
            case rel => exact ⟨k + 1, seen, by omega, by go_num, HFIN.out⟩
            case measure => simp [intOf]; omega
          · obtain ⟨s', hI', hag⟩ := hI.next (by omega) x hxc (htx ▸ hsn)
            rw [← htx] at hI'
            have hl1' := hlook (.int .i64 0) (by rw [if_neg hsn]; rfl)
            have hnew : lk (marks seen) t.ix = none := by rw [lk_marks, if_neg hsn]
            rw [← HTP.out] at hag
            rw [hag] at ho5 hJ5 HOK ⊢
            obtain ⟨w5, hrun5, hM5, hg5⟩ := hM4.store (P := Try.prog) (t := 46) (kt := 3) (et := 3) Try.underlying46 Try.underlying3 t.ix hnew (.int .i64 1)
            have kp5 := Keeps.grown hg5 (S := fun i => i = w2.heap.size) (fun g h => by injection h with h; exact h.symm)
            have hJ6 := hJ5.keeps kp5 (by omega) (by omega) (fun e he g hg => hM4.apart (hJ5.own e he) g hg)
            have hb5 := kp5.below HB4.out HB4.out.size (fun g h => by omega)
            have hle' : (seen ++ [t.ix]).length ≤ count b := nodup_le (count b) _ hI'.nodup hI'.range
            have hfin : BRel id b w1 w2.heap.size (some ⟨gb, o, none⟩) L w5 (seen ++ [t.ix]) := ⟨⟨s', E5, hI', HOK.out, hJ6⟩, by unfold marks; rw [List.map_append]; exact hM5, hb5, PR.out.under hb5, hle'⟩
            have hlen5 : (Builtin.len_ #[46] 3 #[.map (some w2.heap.size)]).run Try.prog w5 = .ok (.int .i64 ((seen.length : Int) + 1)) w5 := by
              have := hM5.len (P := Try.prog) (t := 46) (kt := 3) (et := 3) Try.underlying46 3
              rw [this]
              simp [marks]
            have HFIN := Lib.hid hfin
            have HBB := Lib.hid (kp5.own ho5 (fun g hg => hM4.apart ho5 g hg))
            by_cases hlast : seen.length + 1 = count b
            · rw [if_pos hlast] at HBB ho5 ⊢
              have dl : ((seen.length : Int) + 1 == (L.length : Int)) = true := by rw [HLL.out]; simp; omega
              have HLAST := Lib.hid hlast
              have hsame := sameB_dec A5 A c5 c b.length b.length b b w5 true rfl rfl HBB.out.read (HX.out.under (B1.out.trans (hb5.mono B1.out.size))) (by omega) (by omega) (by simp)
              have HSAME := Lib.hid hsame
              clear hag hlook ho5 hJ5 hI hI' hok hJ hM hbel hpar hM4 hb4 hpar4 kr k5 hbp hfin hsn htx hck q0 q1 q2 q3 hnew hM5 hg5 kp5 hJ6 hb5 hle' hlast hsame
              go_wp2_with fail
              refine HSAME.out.mono ?_
              rintro e w7 ⟨rfl, b7⟩
              have hfin7 : BRel id b w1 w2.heap.size (some ⟨gb, o, none⟩) L w7 (seen ++ [t.ix]) := HFIN.out.under b7
              have HFIN7 := Lib.hid hfin7
              clear b7 hfin7
              go_wp2_with fail
              go_roundw
              case rel => exact ⟨k + 1, _, by omega, by go_num, HFIN7.out⟩
              case measure => simp [intOf]; omega
            · rw [if_neg hlast] at HBB ho5 ⊢
              have dl : ((seen.length : Int) + 1 == (L.length : Int)) = false := by rw [HLL.out]; apply beq_eq_false_iff_ne.2; omega
              have HLAST := Lib.hid hlast
              clear hag hlook ho5 hJ5 hI hI' hok hJ hM hbel hpar hM4 hb4 hpar4 kr k5 hbp hfin hsn htx hck q0 q1 q2 q3 hnew hM5 hg5 kp5 hJ6 hb5 hle' hlast
              go_wp2_with fail
              go_roundw
              case rel => exact ⟨k + 1, _, by omega, by go_num, HFIN.out⟩
              case measure => simp [intOf]; omega
      · go_wp2_with fail
        refine (fixed_any wr).mono ?_
        rintro e w4 ⟨rfl, b4⟩
        go_wp2_with fail
        go_ret
        exact ⟨rfl, B3.out.trans (b4.mono B3.out.size)⟩
end Go.Proofs.Ytpoobdccmaiaiaa
