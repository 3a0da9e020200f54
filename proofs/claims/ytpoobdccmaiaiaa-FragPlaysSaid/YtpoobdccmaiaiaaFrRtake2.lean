/- The walk of the document's joiner's Take: of a part that may be. -/
import Derived.Test.YtpoobdccmaiaiaaFrRtake
import Derived.Deep.DeepCutAuto
import Derived.Deep.RegionLaw
namespace Go.Proofs.Ytpoobdccmaiaiaa
open Go.RowKit
open Frag
set_option linter.unusedVariables false
set_option linter.unusedSimpArgs false

theorem map_take_any (L : List (PV × Value)) (f : PV → Bool) (k : Nat) (h : k < L.length) : ((L.map (·.1)).take (k + 1)).any f = (((L.map (·.1)).take k).any f || f L[k].1) := by
  rw [any_take_succ _ f k (by simpa using h)]; simp
theorem map_take_count (L : List (PV × Value)) (f : PV → Bool) (k : Nat) (h : k < L.length) : ((L.map (·.1)).take (k + 1)).countP f = ((L.map (·.1)).take k).countP f + if f L[k].1 then 1 else 0 := by
  rw [countP_take_succ _ f k (by simpa using h)]; simp
theorem map_any_at (L : List (PV × Value)) (f : PV → Bool) (k : Nat) (h : k < L.length) (hf : f L[k].1 = true) : (L.map (·.1)).any f = true := any_of_take _ f k (by simpa using h) (by simpa using hf)
theorem map_take_all (L : List (PV × Value)) : (L.map (·.1)).take L.length = L.map (·.1) := List.take_of_length_le (by simp)
theorem at_id {w : World} {A : Option Addr} {L : List (PV × Value)} (h : PartsR w A L) (k : Nat) (hk : k < L.length) : ∃ b o, A = some ⟨b, o, none⟩ ∧
    w.cell? ⟨b, o + k * 4, none⟩ = some (.int .u32 L[k].1.id) ∧ w.cell? ⟨b, o + k * 4 + 1, none⟩ = some (.int .i64 L[k].1.ix) ∧ w.cell? ⟨b, o + k * 4 + 2, none⟩ = some (.int .i64 L[k].1.ct) ∧ w.cell? ⟨b, o + k * 4 + 3, none⟩ = some L[k].2 := by
  obtain ⟨b, o, e, _, hat⟩ := h.at (by omega)
  exact ⟨b, o, e, hat k hk⟩
theorem rt16 (L : List (PV × Value)) (p : PV) (hm : mayP p = true) (k : Nat) (hk : k < L.length) (h : decide (p.id < L[k].1.id) = true) : rtake (L.map (·.1)) p = (⟨[], false, 16⟩, false) := by
  unfold rtake; rw [hm]; simp only [Bool.true_eq_false, if_false]
  rw [if_pos (map_any_at L _ k hk h)]
theorem rt3 (L : List (PV × Value)) (p : PV) (hm : mayP p = true) (k : Nat) (hk : k < L.length) (h0 : (L.map (·.1)).any (fun t => decide (p.id < t.id)) = false) (h : (L[k].1.id == p.id && L[k].1.ct != p.ct) = true) : rtake (L.map (·.1)) p = (⟨[], false, 3⟩, false) := by
  unfold rtake; rw [hm]; simp only [Bool.true_eq_false, if_false]
  rw [if_neg (by rw [h0]; decide), if_pos (map_any_at L (fun t => t.id == p.id && t.ct != p.ct) k hk h)]
theorem rt16b (L : List (PV × Value)) (p : PV) (hm : mayP p = true) (k : Nat) (hk : k < L.length) (h0 : (L.map (·.1)).any (fun t => decide (p.id < t.id)) = false) (h1 : (L.map (·.1)).any (fun t => t.id == p.id && t.ct != p.ct) = false) (h : (L[k].1.id == p.id && L[k].1.ix == p.ix) = true) : rtake (L.map (·.1)) p = (⟨[], false, 16⟩, false) := by
  unfold rtake; rw [hm]; simp only [Bool.true_eq_false, if_false]
  rw [if_neg (by rw [h0]; decide), if_neg (by rw [h1]; decide), if_pos (map_any_at L (fun t => t.id == p.id && t.ix == p.ix) k hk h)]
theorem rtgo (L : List (PV × Value)) (p : PV) (hm : mayP p = true) (h0 : (L.map (·.1)).any (fun t => decide (p.id < t.id)) = false) (h1 : (L.map (·.1)).any (fun t => t.id == p.id && t.ct != p.ct) = false) (h2 : (L.map (·.1)).any (fun t => t.id == p.id && t.ix == p.ix) = false) :
    rtake (L.map (·.1)) p = if decide ((((L.map (·.1)).countP (fun t => t.id == p.id) : Nat) : Int) + 1 < p.ct) then (⟨[], false, 0⟩, true) else (⟨rfull ((L.map (·.1)) ++ [p]) p.id p.ct.toNat, true, 0⟩, true) := by
  unfold rtake; rw [hm]; simp only [Bool.true_eq_false, if_false]
  rw [if_neg (by rw [h0]; decide), if_neg (by rw [h1]; decide), if_neg (by rw [h2]; decide)]

/-- The list with the part behind it. -/
def RMid (w : World) (A : Option Addr) (c : Nat) (L : List (PV × Value)) (p : PV) (A2 : Option Addr) (n2 c2 : Nat) (wx : World) : Prop :=
  ∃ A' c', RT w A' (L.length + 1) c' p A2 n2 c2 wx ∧ OwnR wx (w.heap.size + 3) 34 4 (.slice A' (L.length + 1) c') (L.length + 1) (L.flatMap cells ++ cells (p, .slice A2 n2 c2))
theorem flat_len (T : List PV) (h : ∀ t ∈ T, t.bs.length ≤ 448) : (T.flatMap (·.bs)).length ≤ 448 * T.length := by
  induction T with
  | nil => simp
  | cons t T ih =>
    have h1 := h t (List.mem_cons_self ..)
    have h2 := ih (fun u hu => h u (List.mem_cons_of_mem _ hu))
    simp only [List.flatMap_cons, List.length_append, List.length_cons]
    omega
theorem part_len (T : List PV) (h : ∀ t ∈ T, t.bs.length ≤ 448) (f : PV → Bool) (j : Nat) (hj : T.length ≤ 1001) : (((T.take j).filter f).flatMap (·.bs)).length ≤ 448448 := by
  have h1 := flat_len ((T.take j).filter f) (fun t ht => h t (List.mem_of_mem_take (List.mem_filter.1 ht).1))
  have h2 := List.length_filter_le f (T.take j)
  rw [List.length_take] at h2
  omega
theorem rfull_succ (T : List PV) (id : Int) (n : Nat) : rfull T id (n + 1) = rfull T id n ++ (T.filter (fun t => t.id == id && t.ix == (n : Int))).flatMap (·.bs) := by
  unfold rfull
  rw [List.range_succ, List.flatMap_append]
  simp
theorem rfull_len (T : List PV) (h : ∀ t ∈ T, t.bs.length ≤ 448) (id : Int) (hj : T.length ≤ 1001) (n : Nat) : (rfull T id n).length ≤ 448448 * n := by
  induction n with
  | zero => simp [rfull]
  | succ n ih =>
    have h1 := part_len T h (fun t => t.id == id && t.ix == (n : Int)) T.length hj
    rw [List.take_length] at h1
    rw [rfull_succ, List.length_append]
    omega
theorem RMid.of {w w2 w6 : World} {A A6 : Option Addr} {c c6 : Nat} {L : List (PV × Value)} {p : PV} {A2 : Option Addr} {n2 c2 : Nat} (hT : RT w A L.length c p A2 n2 c2 w2) (hb : Below w2.heap.size w2 w6)
    (ho : OwnR w6 w2.heap.size 34 4 (.slice A6 (L.length + 1) c6) (L.length + 1) (L.flatMap cells ++ cells (p, .slice A2 n2 c2))) : RMid w A c L p A2 n2 c2 (w6.setCell ⟨w.heap.size, 0, none⟩ (.slice A6 (L.length + 1) c6)) := by
  have hz := hT.r.lt
  have k : Keeps (fun i => i = w.heap.size) w6 (w6.setCell ⟨w.heap.size, 0, none⟩ (.slice A6 (L.length + 1) c6)) := Keeps.setCell (S := fun i => i = w.heap.size) (p := ⟨w.heap.size, 0, none⟩) (Keeps.refl _ _) (.inl rfl) _
  have hb' := hT.below.trans (hb.mono hT.below.size)
  exact ⟨A6, c6, ⟨(hT.j.under hb).s1_0 _, k.blk (hT.p.under hb) (by omega), k.blk (hT.r.under hb) (by omega), hb'.setCell (Nat.le_refl _) _⟩, OwnR.mono (k.row ho (fun b hb => by have := (ho.blocks b hb).1; omega)) hz⟩
theorem OwnR.empty {w : World} {base g : Nat} {e : TypeId} {size : Nat} (h : Blk w g e #[]) (hb : base ≤ g) : OwnR w base e size (.slice (some ⟨g, 0, none⟩) 0 0) 0 [] :=
  ⟨by simp, .inr ⟨g, 0, #[], rfl, hb, h, Nat.le_refl _, by simp [maxLen], by simp, by simp⟩⟩

set_option maxRecDepth 100000 in
set_option maxHeartbeats 4000000 in
theorem rtake_may (p : PV) (A2 : Option Addr) (n2 c2 : Nat) (w : World) (A : Option Addr) (c : Nat) (L : List (PV × Value)) (hL : PartsR w A L) (hlen : L.length ≤ 1000) (hcap : L.length ≤ c) (hn : n2 = p.bs.length) (hl : n2 ≤ 9223372036854775807) (hr : ReadI w .u8 A2 p.bs) (hm : mayP p = true) (hsm : ∀ q ∈ L, q.1.bs.length ≤ 448) :
    Calls Try.prog 15 #[.agg #[.slice A L.length c], partV p A2 n2 c2] w (RTakeAll w p A2 n2 c2 A c L) := by
  have HL := Lib.hid hL
  have HN := Lib.hid hn
  have HM := Lib.hid hm
  have HR := Lib.hid hr
  have HS := Lib.hid hsm
  clear hL hn hm hr hsm
  go_enter Try.func15, Try.ntmps15
  go_wp2_with fail
  refine (rmay_dec p A2 n2 c2 _ HN.out hl true HM.out).mono ?_
  rintro e w2 ⟨rfl, hb2⟩
  have hT := RT.start hb2
  have HT := Lib.hid hT
  have c0 : w2.cell? ⟨w.heap.size, 0, none⟩ = some (.slice A L.length c) := hT.j.cell 0
  have p0 : w2.cell? ⟨w.heap.size + 1, 0, none⟩ = some (.int .u32 p.id) := hT.p.cell 0
  have p1 : w2.cell? ⟨w.heap.size + 1, 1, none⟩ = some (.int .i64 p.ix) := hT.p.cell 1
  have p2 : w2.cell? ⟨w.heap.size + 1, 2, none⟩ = some (.int .i64 p.ct) := hT.p.cell 2
  have r0 : w2.cell? ⟨w.heap.size + 2, 0, none⟩ = some (.slice none 0 0) := hT.r.cell 0
  have f0 : w2.frozen? ⟨w.heap.size + 2, 0, none⟩ = false := hT.r.frozen 0
  have hL2 := HL.out.under hT.below
  have HL2 := Lib.hid hL2
  clear hb2 hT hL2
  go_wp2_with fail
  go_loopw [22] (fun i wr => ∃ (k m : Nat), k ≤ L.length ∧ i = .int .i64 k ∧ ((L.map (·.1)).take k).any (fun t => decide (p.id < t.id)) = false ∧ wr = w2.drewN m) (fun i _ => L.length - (intOf i).toNat)
  case atStart => exact ⟨0, 0, Nat.zero_le _, rfl, rfl, rfl⟩
  case round =>
    obtain ⟨k, m, hk, rfl, hno, rfl⟩ := hrel
    have HNO := Lib.hid hno
    clear hno
    by_cases hlt : k < L.length
    · obtain ⟨b, o, rfl, q0, q1, q2, q3⟩ := at_id HL2.out k hlt
      obtain ⟨t, ht⟩ : ∃ t, t = L[k].1 := ⟨_, rfl⟩
      rw [← ht] at q0 q1 q2
      clear q3
      have i1 : (k : Int) < (L.length : Int) := by omega
      have HTT := Lib.hid ht
      clear ht
      by_cases hid : p.id < t.id
      · have d0 : decide (p.id < t.id) = true := decide_eq_true hid
        go_wp2_with fail
        go_quiet (fail)
        go_wp2_with fail
        go_region
        all_goals
          go_wp2_with fail
          refine bodyPost_ret (v := .tuple #[.slice none 0 0, .bool false, .int .i64 16, .agg #[.slice (some ⟨b, o, none⟩) L.length c]]) (by simp [results, Try.results15, go_sem, r0]) rfl ?_
          exact RTakeAll.of 16 (rt16 L p HM.out k hlt (by rw [← HTT.out]; exact d0)) ((HT.out.drewN _).gone _) rfl
      · have d0 : decide (p.id < t.id) = false := decide_eq_false hid
        go_wp2_with fail
        go_quiet (fail)
        go_wp2_with fail
        go_roundw
        case rel => exact ⟨k + 1, _, by omega, by go_num, by rw [map_take_any _ _ k hlt, HNO.out, ← HTT.out, d0]; rfl, rfl⟩
        case measure => simp [intOf]; omega
    · obtain rfl : k = L.length := by omega
      have h0 := HNO.out
      rw [map_take_all] at h0
      have H0 := Lib.hid h0
      clear HNO h0
      go_wp2_with fail
      obtain ⟨wo, hwo⟩ : ∃ wo : World, wo = w2.drewN m := ⟨_, rfl⟩
      go_loopw [8, 39] (fun s i wr => ∃ (k m : Nat), k ≤ L.length ∧ i = .int .i64 k ∧ s = .int .i64 (((L.map (·.1)).take k).countP (fun t => t.id == p.id) : Nat) ∧ ((L.map (·.1)).take k).any (fun t => t.id == p.id && t.ct != p.ct) = false ∧ wr = w2.drewN m) (fun _ i _ => L.length - (intOf i).toNat)
      case atStart => exact ⟨0, m, Nat.zero_le _, rfl, rfl, rfl, rfl⟩
      case round =>
        obtain ⟨k, m, hk, rfl, rfl, hno, rfl⟩ := hrel
        have HNO := Lib.hid hno
        clear hno hwo wo
        have hcl : ((L.map (·.1)).take k).countP (fun t => t.id == p.id) ≤ 1000 := by
          have h1 := List.countP_le_length (p := fun t : PV => t.id == p.id) (l := (L.map (·.1)).take k)
          rw [List.length_take] at h1
          omega
        by_cases hlt : k < L.length
        · obtain ⟨b, o, rfl, q0, q1, q2, q3⟩ := at_id HL2.out k hlt
          obtain ⟨t, ht⟩ : ∃ t, t = L[k].1 := ⟨_, rfl⟩
          rw [← ht] at q0 q1 q2
          clear q3
          have i1 : (k : Int) < (L.length : Int) := by omega
          have HTT := Lib.hid ht
          clear ht
          have hcs := map_take_count L (fun t => t.id == p.id) k hlt
          rw [← HTT.out] at hcs
          obtain ⟨cn, hcn⟩ : ∃ cn, cn = ((L.map (·.1)).take k).countP (fun t => t.id == p.id) := ⟨_, rfl⟩
          rw [← hcn] at hcl hcs ⊢
          have HCS := Lib.hid hcs
          clear hcs hcn
          by_cases hid : t.id = p.id
          · have d0 : (t.id == p.id) = true := by simp [hid]
            by_cases hct : t.ct = p.ct
            · have d1 : (t.ct != p.ct) = false := by simp [hct]
              have HD0 := Lib.hid d0
              have HD1 := Lib.hid d1
              clear hid hct
              go_wp2_with fail
              go_quiet (fail)
              go_wp2_with fail
              go_quiet (fail)
              go_wp2_with fail
              go_roundw
              case rel => exact ⟨k + 1, _, by omega, by go_num, by rw [HCS.out, HD0.out]; rfl, by rw [map_take_any _ _ k hlt, HNO.out, ← HTT.out, HD1.out]; simp, rfl⟩
              case measure => simp [intOf]; omega
            · have d1 : (t.ct != p.ct) = true := by simp [hct]
              have HD0 := Lib.hid d0
              have HD1 := Lib.hid d1
              clear hid hct
              go_wp2_with fail
              go_quiet (fail)
              go_wp2_with fail
              go_quiet (fail)
              go_wp2_with fail
              go_region
              all_goals
                go_wp2_with fail
                refine bodyPost_ret (v := .tuple #[.slice none 0 0, .bool false, .int .i64 3, .agg #[.slice (some ⟨b, o, none⟩) L.length c]]) (by simp [results, Try.results15, go_sem, r0]) rfl ?_
                exact RTakeAll.of 3 (rt3 L p HM.out k hlt H0.out (by rw [← HTT.out, HD0.out, HD1.out]; rfl)) ((HT.out.drewN _).gone _) rfl
          · have d0 : (t.id == p.id) = false := by simp [hid]
            have HD0 := Lib.hid d0
            clear hid
            go_wp2_with fail
            go_quiet (fail)
            go_wp2_with fail
            go_roundw
            case rel => exact ⟨k + 1, _, by omega, by go_num, by rw [HCS.out, HD0.out]; rfl, by rw [map_take_any _ _ k hlt, HNO.out, ← HTT.out, HD0.out]; rfl, rfl⟩
            case measure => simp [intOf]; omega
        · obtain rfl : k = L.length := by omega
          have h1 := HNO.out
          rw [map_take_all] at h1 hcl ⊢
          have H1 := Lib.hid h1
          obtain ⟨cn, hcn⟩ : ∃ cn, cn = (L.map (·.1)).countP (fun t => t.id == p.id) := ⟨_, rfl⟩
          rw [← hcn] at hcl ⊢
          have HCN := Lib.hid hcn
          clear HNO h1 hcn
          go_wp2_with fail
          go_loopw [67] (fun i wr => ∃ (k m : Nat), k ≤ L.length ∧ i = .int .i64 k ∧ ((L.map (·.1)).take k).any (fun t => t.id == p.id && t.ix == p.ix) = false ∧ wr = w2.drewN m) (fun i _ => L.length - (intOf i).toNat)
          case atStart => exact ⟨0, m, Nat.zero_le _, rfl, rfl, rfl⟩
          case round =>
            obtain ⟨k, m, hk, rfl, hno, rfl⟩ := hrel
            have HNO := Lib.hid hno
            clear hno
            by_cases hlt : k < L.length
            · obtain ⟨b, o, rfl, q0, q1, q2, q3⟩ := at_id HL2.out k hlt
              obtain ⟨t, ht⟩ : ∃ t, t = L[k].1 := ⟨_, rfl⟩
              rw [← ht] at q0 q1 q2
              clear q3
              have i1 : (k : Int) < (L.length : Int) := by omega
              have HTT := Lib.hid ht
              clear ht
              by_cases hid : t.id = p.id
              · have d0 : (t.id == p.id) = true := by simp [hid]
                by_cases hix : t.ix = p.ix
                · have d1 : (t.ix == p.ix) = true := by simp [hix]
                  have HD0 := Lib.hid d0
                  have HD1 := Lib.hid d1
                  clear hid hix
                  go_wp2_with fail
                  go_quiet (fail)
                  go_wp2_with fail
                  go_region
                  all_goals
                    go_wp2_with fail
                    refine bodyPost_ret (v := .tuple #[.slice none 0 0, .bool false, .int .i64 16, .agg #[.slice (some ⟨b, o, none⟩) L.length c]]) (by simp [results, Try.results15, go_sem, r0]) rfl ?_
                    exact RTakeAll.of 16 (rt16b L p HM.out k hlt H0.out H1.out (by rw [← HTT.out, HD0.out, HD1.out]; rfl)) ((HT.out.drewN _).gone _) rfl
                · have d1 : (t.ix == p.ix) = false := by simp [hix]
                  have HD0 := Lib.hid d0
                  have HD1 := Lib.hid d1
                  clear hid hix
                  go_wp2_with fail
                  go_quiet (fail)
                  go_wp2_with fail
                  go_roundw
                  case rel => exact ⟨k + 1, _, by omega, by go_num, by rw [map_take_any _ _ k hlt, HNO.out, ← HTT.out, HD1.out]; simp, rfl⟩
                  case measure => simp [intOf]; omega
              · have d0 : (t.id == p.id) = false := by simp [hid]
                have HD0 := Lib.hid d0
                clear hid
                go_wp2_with fail
                go_quiet (fail)
                go_wp2_with fail
                go_roundw
                case rel => exact ⟨k + 1, _, by omega, by go_num, by rw [map_take_any _ _ k hlt, HNO.out, ← HTT.out, HD0.out]; rfl, rfl⟩
                case measure => simp [intOf]; omega
            · obtain rfl : k = L.length := by omega
              have h2 := HNO.out
              rw [map_take_all] at h2
              have H2 := Lib.hid h2
              clear HNO h2
              have p3 : w2.cell? ⟨w.heap.size + 1, 3, none⟩ = some (.slice A2 n2 c2) := HT.out.p.cell 3
              go_upto_region 24 with (fail)
              go_cut [] from 92 to 98 (fun wx => RMid w A c L p A2 n2 c2 wx)
              case first =>
                have g0 : w2.frozen? ⟨w.heap.size, 0, none⟩ = false := HT.out.j.frozen 0
                have hszw : w.heap.size + 2 < w2.heap.size := HT.out.r.lt
                have a0 : ∀ (ob : Obj) (n : Nat), ((w2.drewN n).alloc ob).cell? ⟨w.heap.size, 0, none⟩ = some (.slice A L.length c) := fun ob n => ((below_alloc (below_drewN (Below.refl w2.heap.size w2) n) ob).cell (p := ⟨w.heap.size, 0, none⟩) (by simp; omega)).trans c0
                have a0' : ∀ (ob ob2 : Obj) (n : Nat), (((w2.drewN n).alloc ob).alloc ob2).cell? ⟨w.heap.size, 0, none⟩ = some (.slice A L.length c) := fun ob ob2 n => ((below_alloc (below_alloc (below_drewN (Below.refl w2.heap.size w2) n) ob) ob2).cell (p := ⟨w.heap.size, 0, none⟩) (by simp; omega)).trans c0
                have a1 : ∀ (ob : Obj) (n : Nat), ((w2.drewN n).alloc ob).cell? ⟨w.heap.size + 1, 0, none⟩ = some (.int .u32 p.id) := fun ob n => ((below_alloc (below_drewN (Below.refl w2.heap.size w2) n) ob).cell (p := ⟨w.heap.size + 1, 0, none⟩) (by simp; omega)).trans p0
                have a1' : ∀ (ob ob2 : Obj) (n : Nat), (((w2.drewN n).alloc ob).alloc ob2).cell? ⟨w.heap.size + 1, 0, none⟩ = some (.int .u32 p.id) := fun ob ob2 n => ((below_alloc (below_alloc (below_drewN (Below.refl w2.heap.size w2) n) ob) ob2).cell (p := ⟨w.heap.size + 1, 0, none⟩) (by simp; omega)).trans p0
                have a2 : ∀ (ob : Obj) (n : Nat), ((w2.drewN n).alloc ob).cell? ⟨w.heap.size + 1, 1, none⟩ = some (.int .i64 p.ix) := fun ob n => ((below_alloc (below_drewN (Below.refl w2.heap.size w2) n) ob).cell (p := ⟨w.heap.size + 1, 1, none⟩) (by simp; omega)).trans p1
                have a2' : ∀ (ob ob2 : Obj) (n : Nat), (((w2.drewN n).alloc ob).alloc ob2).cell? ⟨w.heap.size + 1, 1, none⟩ = some (.int .i64 p.ix) := fun ob ob2 n => ((below_alloc (below_alloc (below_drewN (Below.refl w2.heap.size w2) n) ob) ob2).cell (p := ⟨w.heap.size + 1, 1, none⟩) (by simp; omega)).trans p1
                have a3 : ∀ (ob : Obj) (n : Nat), ((w2.drewN n).alloc ob).cell? ⟨w.heap.size + 1, 2, none⟩ = some (.int .i64 p.ct) := fun ob n => ((below_alloc (below_drewN (Below.refl w2.heap.size w2) n) ob).cell (p := ⟨w.heap.size + 1, 2, none⟩) (by simp; omega)).trans p2
                have a3' : ∀ (ob ob2 : Obj) (n : Nat), (((w2.drewN n).alloc ob).alloc ob2).cell? ⟨w.heap.size + 1, 2, none⟩ = some (.int .i64 p.ct) := fun ob ob2 n => ((below_alloc (below_alloc (below_drewN (Below.refl w2.heap.size w2) n) ob) ob2).cell (p := ⟨w.heap.size + 1, 2, none⟩) (by simp; omega)).trans p2
                have a4 : ∀ (ob : Obj) (n : Nat), ((w2.drewN n).alloc ob).cell? ⟨w.heap.size + 1, 3, none⟩ = some (.slice A2 n2 c2) := fun ob n => ((below_alloc (below_drewN (Below.refl w2.heap.size w2) n) ob).cell (p := ⟨w.heap.size + 1, 3, none⟩) (by simp; omega)).trans p3
                have a4' : ∀ (ob ob2 : Obj) (n : Nat), (((w2.drewN n).alloc ob).alloc ob2).cell? ⟨w.heap.size + 1, 3, none⟩ = some (.slice A2 n2 c2) := fun ob ob2 n => ((below_alloc (below_alloc (below_drewN (Below.refl w2.heap.size w2) n) ob) ob2).cell (p := ⟨w.heap.size + 1, 3, none⟩) (by simp; omega)).trans p3
                go_region_law ((first
                  | (refine step_append_cells _ rfl (.tmp 92) (.tmp 94) 26 34 4 48 (by rfl) Try.underlying26 (by kernel_rfl) (by omega) (by omega) w2.heap.size (.slice (some ⟨w2.heap.size, 0, none⟩) 0 0) 0 [] (by rfl) (OwnR.empty (Blk.new _ _ _) (by omega)) A c L.length (L.flatMap cells) (by rfl) (HL2.out.row.under (below_alloc (below_drewN (Below.refl _ _) _) _)) (cells_len L) HL2.out.one L.length (by simp) (L.flatMap cells) (by simp) (by omega) (by first | omega | (simp; done) | (simp; omega)) ?_; intro A5 c5 w5 hap5; have HAP5 := Lib.hid hap5; have hb5 : Below w2.heap.size w2 w5 := below_of_only (below_alloc (below_drewN (Below.refl _ _) _) _) hap5.only (by first | omega | (simp; done) | (simp; omega)) (fun x hx => by simp [Value.ownBlock] at hx; omega); have hw5 : A5 = A5 := rfl; have x0 := (hb5.cell (p := ⟨w.heap.size, 0, none⟩) (by simp; omega)).trans c0; have x1 := (hb5.cell (p := ⟨w.heap.size + 1, 0, none⟩) (by simp; omega)).trans p0; have x2 := (hb5.cell (p := ⟨w.heap.size + 1, 1, none⟩) (by simp; omega)).trans p1; have x3 := (hb5.cell (p := ⟨w.heap.size + 1, 2, none⟩) (by simp; omega)).trans p2; have x4 := (hb5.cell (p := ⟨w.heap.size + 1, 3, none⟩) (by simp; omega)).trans p3; have HB5 := Lib.hid hb5; have hz5 := hb5.size; clear hap5 hb5)
                  | (refine step_append_cells _ rfl (.tmp 92) (.tmp 94) 26 34 4 48 (by rfl) Try.underlying26 (by kernel_rfl) (by omega) (by omega) w2.heap.size (.slice (some ⟨w2.heap.size, 0, none⟩) 0 0) 0 [] (by rfl) (OwnR.empty ((Blk.new _ _ _).alloc _) (by omega)) A c L.length (L.flatMap cells) (by rfl) (HL2.out.row.under (below_alloc (below_alloc (below_drewN (Below.refl _ _) _) _) _)) (cells_len L) HL2.out.one L.length (by simp) (L.flatMap cells) (by simp) (by omega) (by first | omega | (simp; done) | (simp; omega)) ?_; intro A5 c5 w5 hap5; have HAP5 := Lib.hid hap5; have hb5 : Below w2.heap.size w2 w5 := below_of_only (below_alloc (below_alloc (below_drewN (Below.refl _ _) _) _) _) hap5.only (by first | omega | (simp; done) | (simp; omega)) (fun x hx => by simp [Value.ownBlock] at hx; omega); have hpb : Blk w5 (w2.heap.size + 1) 34 (partC p A2 n2 c2) := by { have h1 := (Blk.new ((w2.drewN (m + 1)).alloc (.cells #[] 34)) 34 (partC p A2 n2 c2)).grown hap5.only (by simp [Value.ownBlock]); simpa using h1 }; have HPB := Lib.hid hpb; clear hpb; have x0 := (hb5.cell (p := ⟨w.heap.size, 0, none⟩) (by simp; omega)).trans c0; have x1 := (hb5.cell (p := ⟨w.heap.size + 1, 0, none⟩) (by simp; omega)).trans p0; have x2 := (hb5.cell (p := ⟨w.heap.size + 1, 1, none⟩) (by simp; omega)).trans p1; have x3 := (hb5.cell (p := ⟨w.heap.size + 1, 2, none⟩) (by simp; omega)).trans p2; have x4 := (hb5.cell (p := ⟨w.heap.size + 1, 3, none⟩) (by simp; omega)).trans p3; have HB5 := Lib.hid hb5; have hz5 := hb5.size; clear hap5 hb5)
                  | (refine step_append_cells _ rfl (.tmp 92) (.tmp 94) 26 34 4 48 (by rfl) Try.underlying26 (by kernel_rfl) (by omega) (by omega) w2.heap.size (.slice (some ⟨w2.heap.size + 1, 0, none⟩) 0 0) 0 [] (by rfl) (OwnR.empty (by have h1 := Blk.new ((w2.drewN (m + 1)).alloc (.cells (partC p A2 n2 c2) 34)) 34 #[]; simpa using h1) (by omega)) A c L.length (L.flatMap cells) (by rfl) (HL2.out.row.under (below_alloc (below_alloc (below_drewN (Below.refl _ _) _) _) _)) (cells_len L) HL2.out.one L.length (by simp) (L.flatMap cells) (by simp) (by omega) (by first | omega | (simp; done) | (simp; omega)) ?_; intro A5 c5 w5 hap5; have HAP5 := Lib.hid hap5; have hb5 : Below w2.heap.size w2 w5 := below_of_only (below_alloc (below_alloc (below_drewN (Below.refl _ _) _) _) _) hap5.only (by first | omega | (simp; done) | (simp; omega)) (fun x hx => by simp [Value.ownBlock] at hx; omega); have hpb : Blk w5 w2.heap.size 34 (partC p A2 n2 c2) := by { have h1 := ((Blk.new (w2.drewN (m + 1)) 34 (partC p A2 n2 c2)).alloc (.cells #[] 34)).grown hap5.only (by simp [Value.ownBlock]); simpa using h1 }; have HPB := Lib.hid hpb; clear hpb; have x0 := (hb5.cell (p := ⟨w.heap.size, 0, none⟩) (by simp; omega)).trans c0; have x1 := (hb5.cell (p := ⟨w.heap.size + 1, 0, none⟩) (by simp; omega)).trans p0; have x2 := (hb5.cell (p := ⟨w.heap.size + 1, 1, none⟩) (by simp; omega)).trans p1; have x3 := (hb5.cell (p := ⟨w.heap.size + 1, 2, none⟩) (by simp; omega)).trans p2; have x4 := (hb5.cell (p := ⟨w.heap.size + 1, 3, none⟩) (by simp; omega)).trans p3; have HB5 := Lib.hid hb5; have hz5 := hb5.size; clear hap5 hb5)
                  | (refine step_append_cells _ rfl (.tmp 95) (.tmp 97) 26 34 4 48 (by rfl) Try.underlying26 (by kernel_rfl) (by omega) (by omega) w2.heap.size (.slice A5 L.length c5) L.length (L.flatMap cells) (by rfl) (OwnR.under HAP5.out.own (below_alloc (Below.refl _ _) _)) (some ⟨w5.heap.size, 0, none⟩) 1 1 (cells (p, .slice A2 n2 c2)) (by rfl) (Blk.read (Blk.new _ _ _)) rfl (by intro u hu; simp [cells] at hu; rcases hu with rfl | rfl | rfl | rfl <;> rfl) (L.length + 1) rfl _ rfl (by omega) (by first | omega | (simp; done) | (simp; omega)) ?_; intro A6 c6 w6 hap6; have HAP6 := Lib.hid hap6; have hb6 : Below w2.heap.size w2 w6 := below_of_only (below_alloc HB5.out _) hap6.only (by first | omega | (simp; done) | (simp; omega)) (fun x hx => (OwnR.blocks HAP5.out.own x hx).1); have y0 := (hb6.cell (p := ⟨w.heap.size, 0, none⟩) (by simp; omega)).trans c0; have yf := (hb6.frozen (p := ⟨w.heap.size, 0, none⟩) (by simp; omega)).trans g0; have HB6 := Lib.hid hb6; clear hap6 hb6)
                  | (refine step_append_cells _ rfl (.tmp 95) (.tmp 97) 26 34 4 48 (by rfl) Try.underlying26 (by kernel_rfl) (by omega) (by omega) w2.heap.size (.slice A5 L.length c5) L.length (L.flatMap cells) (by rfl) HAP5.out.own (some ⟨w2.heap.size + 1, 0, none⟩) 1 1 (cells (p, .slice A2 n2 c2)) (by rfl) (Blk.read HPB.out) rfl (by intro u hu; simp [cells] at hu; rcases hu with rfl | rfl | rfl | rfl <;> rfl) (L.length + 1) rfl _ rfl (by omega) (by first | omega | (simp; done) | (simp; omega)) ?_; intro A6 c6 w6 hap6; have HAP6 := Lib.hid hap6; have hb6 : Below w2.heap.size w2 w6 := below_of_only HB5.out hap6.only (by first | omega | (simp; done) | (simp; omega)) (fun x hx => (OwnR.blocks HAP5.out.own x hx).1); have y0 := (hb6.cell (p := ⟨w.heap.size, 0, none⟩) (by simp; omega)).trans c0; have yf := (hb6.frozen (p := ⟨w.heap.size, 0, none⟩) (by simp; omega)).trans g0; have HB6 := Lib.hid hb6; clear hap6 hb6)
                  | (refine step_append_cells _ rfl (.tmp 95) (.tmp 97) 26 34 4 48 (by rfl) Try.underlying26 (by kernel_rfl) (by omega) (by omega) w2.heap.size (.slice A5 L.length c5) L.length (L.flatMap cells) (by rfl) HAP5.out.own (some ⟨w2.heap.size, 0, none⟩) 1 1 (cells (p, .slice A2 n2 c2)) (by rfl) (Blk.read HPB.out) rfl (by intro u hu; simp [cells] at hu; rcases hu with rfl | rfl | rfl | rfl <;> rfl) (L.length + 1) rfl _ rfl (by omega) (by first | omega | (simp; done) | (simp; omega)) ?_; intro A6 c6 w6 hap6; have HAP6 := Lib.hid hap6; have hb6 : Below w2.heap.size w2 w6 := below_of_only HB5.out hap6.only (by first | omega | (simp; done) | (simp; omega)) (fun x hx => (OwnR.blocks HAP5.out.own x hx).1); have y0 := (hb6.cell (p := ⟨w.heap.size, 0, none⟩) (by simp; omega)).trans c0; have yf := (hb6.frozen (p := ⟨w.heap.size, 0, none⟩) (by simp; omega)).trans g0; have HB6 := Lib.hid hb6; clear hap6 hb6)))
                all_goals
                  go_wp2_with fail
                  go_meet
                  case rel => exact RMid.of HT.out HB6.out HAP6.out.own
              case rest =>
                obtain ⟨A', c', hT', hO'⟩ := hcut
                obtain ⟨LT, hLT⟩ : ∃ LT, LT = L ++ [((p, .slice A2 n2 c2) : PV × Value)] := ⟨_, rfl⟩
                have hLTl : LT.length = L.length + 1 := by rw [hLT]; simp
                have hLTm : LT.map (·.1) = L.map (·.1) ++ [p] := by rw [hLT]; simp
                have hPR : ∀ wf, Below w.heap.size w wf → OwnR wf (w.heap.size + 3) 34 4 (.slice A' (L.length + 1) c') (L.length + 1) (L.flatMap cells ++ cells (p, .slice A2 n2 c2)) → PartsR wf A' LT := fun wf hb ho => by
                  rw [hLT]
                  exact PartsR.more (HL.out.under hb) _ ⟨A2, c2, by rw [HN.out], HR.out.under hb⟩ ho
                have HO' := Lib.hid hO'
                have hgo := rtgo L p HM.out H0.out H1.out H2.out
                rw [← HCN.out] at hgo
                have hp3 := (mayP_iff p).1 HM.out
                have hsm2 : ∀ t ∈ LT.map (·.1), t.bs.length ≤ 448 := fun t ht => by
                  rw [hLTm] at ht
                  rcases List.mem_append.1 ht with h | h
                  · obtain ⟨q, hq, rfl⟩ := List.mem_map.1 h; exact HS.out q hq
                  · rw [List.mem_singleton.1 h]; exact hp3.2.2.2.2.1
                have HSM2 := Lib.hid hsm2
                have HLT := Lib.hid hLT
                have HLTL := Lib.hid hLTl
                have HLTM := Lib.hid hLTm
                have HPR := Lib.hid hPR
                have HT' := Lib.hid hT'
                have j0 : wc.cell? ⟨w.heap.size, 0, none⟩ = some (.slice A' (L.length + 1) c') := hT'.j.cell 0
                have pp0 : wc.cell? ⟨w.heap.size + 1, 0, none⟩ = some (.int .u32 p.id) := hT'.p.cell 0
                have pp2 : wc.cell? ⟨w.heap.size + 1, 2, none⟩ = some (.int .i64 p.ct) := hT'.p.cell 2
                have rr0 : wc.cell? ⟨w.heap.size + 2, 0, none⟩ = some (.slice none 0 0) := hT'.r.cell 0
                have ff0 : wc.frozen? ⟨w.heap.size + 2, 0, none⟩ = false := hT'.r.frozen 0
                have hct : 1 ≤ p.ct ∧ p.ct ≤ 128 := by omega
                clear hT' hO' hPR hLT hLTl hLTm c0 p0 p1 p2 p3 r0 f0 hsm2
                by_cases hfew : (cn : Int) + 1 < p.ct
                · rw [if_pos (by exact decide_eq_true hfew)] at hgo
                  have HGO := Lib.hid hgo
                  have d5 : decide ((cn : Int) + 1 < p.ct) = true := decide_eq_true hfew
                  clear hgo hfew
                  go_wp2_with fail
                  go_region
                  all_goals
                    go_wp2_with fail
                    refine bodyPost_ret (v := .tuple #[.slice none 0 0, .bool false, .int .i64 0, .agg #[.slice A' (L.length + 1) c']]) (by simp [results, Try.results15, go_sem, rr0]) rfl ?_
                    exact RTakeAll.put HGO.out A' c' ((Keeps.row (S := fun i => i = w.heap.size + 2) ((Keeps.setCell (S := fun i => i = w.heap.size + 2) (p := ⟨w.heap.size + 2, 0, none⟩) (Keeps.refl _ _) (.inl rfl) _).drew) HO'.out (fun b hb e => by have := (OwnR.blocks HO'.out b hb).1; omega))) (below_drew (HT'.out.gone _)) (OwnI.nil _ _ _ _) rfl
                · rw [if_neg (by simpa using hfew)] at hgo
                  have HGO := Lib.hid hgo
                  have d5 : decide ((cn : Int) + 1 < p.ct) = false := decide_eq_false hfew
                  obtain ⟨ct, hcte⟩ : ∃ ct : Nat, p.ct = (ct : Int) := ⟨p.ct.toNat, by omega⟩
                  rw [hcte] at pp2 d5 hct
                  have hrl := rfull_len (LT.map (·.1)) HSM2.out p.id (by simp [HLTL.out]; omega)
                  have hrs := rfull_succ (LT.map (·.1)) p.id
                  have HRL := Lib.hid hrl
                  have HRS := Lib.hid hrs
                  have HCTE := Lib.hid hcte
                  have hwz : w.heap.size + 2 < wc.heap.size := HT'.out.r.lt
                  clear hgo hfew hcte hrl hrs
                  go_wp2_with fail
                  go_loopw [12, 13] (fun o i wr => ∃ (k : Nat) (A5 : Option Addr) (c5 : Nat), k ≤ ct ∧ i = .int .i64 k ∧ o = .slice A5 (rfull (LT.map (·.1)) p.id k).length c5 ∧ OwnI wr wc.heap.size 5 .u8 (.slice A5 (rfull (LT.map (·.1)) p.id k).length c5) (rfull (LT.map (·.1)) p.id k) ∧ Below wc.heap.size wc wr) (fun _ i _ => ct - (intOf i).toNat)
                  case atStart => exact ⟨0, some ⟨wc.heap.size, 0, none⟩, 0, Nat.zero_le _, rfl, rfl, OwnI.lit wc wc.heap.size 5 .u8 [] _ rfl (Nat.le_refl _) (by simp [maxLen]), below_alloc (Below.refl _ _) _⟩
                  case round =>
                    obtain ⟨k, A5, c5, hk, rfl, rfl, ho, hbk⟩ := hrel
                    obtain ⟨hkc, hkf⟩ := bcell hbk
                    have jk := (hkc w.heap.size 0 (by omega)).trans j0
                    have pk0 := (hkc (w.heap.size + 1) 0 (by omega)).trans pp0
                    have pk2 := (hkc (w.heap.size + 1) 2 (by omega)).trans pp2
                    by_cases hlt : k < ct
                    · have i1 : (k : Int) < (ct : Int) := by omega
                      have HO := Lib.hid ho
                      have HBK := Lib.hid hbk
                      have hl1 := HRL.out k
                      obtain ⟨xs, hxs⟩ : ∃ xs, xs = rfull (LT.map (·.1)) p.id k := ⟨_, rfl⟩
                      have HXS := Lib.hid hxs
                      rw [← hxs] at HO hl1 ⊢
                      clear hkc hkf ho hbk hxs
                      go_wp2_with fail
                      obtain ⟨wo, hwo⟩ : ∃ wo : World, wo = wr := ⟨_, rfl⟩
                      rw [← hwo] at HO HBK jk pk0 pk2 ⊢
                      clear hwo
                      go_loopw [12, 116] (fun o i wr => ∃ (j : Nat) (A6 : Option Addr) (c6 : Nat), j ≤ LT.length ∧ i = .int .i64 j ∧ o = .slice A6 (xs ++ (((LT.map (·.1)).take j).filter (fun t => t.id == p.id && t.ix == (k : Int))).flatMap (·.bs)).length c6 ∧ OwnI wr wc.heap.size 5 .u8 (.slice A6 (xs ++ (((LT.map (·.1)).take j).filter (fun t => t.id == p.id && t.ix == (k : Int))).flatMap (·.bs)).length c6) (xs ++ (((LT.map (·.1)).take j).filter (fun t => t.id == p.id && t.ix == (k : Int))).flatMap (·.bs)) ∧ Below wc.heap.size wc wr) (fun _ i _ => LT.length - (intOf i).toNat)
                      case atStart => exact ⟨0, A5, c5, Nat.zero_le _, rfl, by simp, by simpa using HO.out, HBK.out⟩
                      case round =>
                        obtain ⟨j, A6, c6, hj, rfl, rfl, ho, hbj⟩ := hrel
                        obtain ⟨hkc, hkf⟩ := bcell hbj
                        have jr := (hkc w.heap.size 0 (by omega)).trans j0
                        have pr0 := (hkc (w.heap.size + 1) 0 (by omega)).trans pp0
                        have pr2 := (hkc (w.heap.size + 1) 2 (by omega)).trans pp2
                        have hpr := HPR.out wr (HT'.out.below.trans (hbj.mono HT'.out.below.size)) (OwnR.under HO'.out hbj)
                        have hl2 := part_len (LT.map (·.1)) HSM2.out (fun t => t.id == p.id && t.ix == (k : Int)) j (by simp [HLTL.out]; omega)
                        have HOJ := Lib.hid ho
                        have HBJ := Lib.hid hbj
                        have HPRJ := Lib.hid hpr
                        clear hkc hkf ho hbj hpr jk pk0 pk2
                        by_cases hjl : j < LT.length
                        · obtain ⟨b, o, rfl, q0, q1, q2, q3⟩ := at_id HPRJ.out j hjl
                          obtain ⟨B7, c7, hq3, hr7⟩ := HPRJ.out.bytes LT[j] (List.getElem_mem hjl)
                          have hfs := flatMap_take_succ (LT.map (·.1)) (fun t => t.id == p.id && t.ix == (k : Int)) j (by simpa using hjl)
                          have hb7 := HSM2.out LT[j].1 (List.mem_map.2 ⟨_, List.getElem_mem hjl, rfl⟩)
                          rw [hq3] at q3
                          rw [List.getElem_map] at hfs
                          obtain ⟨t, ht⟩ : ∃ t, t = LT[j].1 := ⟨_, rfl⟩
                          rw [← ht] at q0 q1 q2 q3 hfs hr7 hb7
                          obtain ⟨ys, hys⟩ : ∃ ys, ys = (((LT.map (·.1)).take j).filter (fun t => t.id == p.id && t.ix == (k : Int))).flatMap (·.bs) := ⟨_, rfl⟩
                          rw [← hys] at hfs HOJ hl2 ⊢
                          have i1 : (j : Int) < (L.length : Int) + 1 := by have := HLTL.out; omega
                          have HFS := Lib.hid hfs
                          have HR7 := Lib.hid hr7
                          have hxy : (xs ++ ys).length = xs.length + ys.length := List.length_append
                          obtain ⟨zs, hzs⟩ : ∃ zs, zs = xs ++ ys := ⟨_, rfl⟩
                          rw [← hzs] at HOJ hxy ⊢
                          have HZS := Lib.hid hzs
                          have hzl : zs.length ≤ 200000000 := by omega
                          clear hfs hr7 hq3 ht hys hxy hzs j0 pp0 pp2
                          by_cases hid : t.id = p.id
                          · have d0 : (t.id == p.id) = true := by simp [hid]
                            have HD0 := Lib.hid d0
                            clear hid
                            by_cases hix : t.ix = (k : Int)
                            · have d1 : (t.ix == (k : Int)) = true := by simp [hix]
                              have HD1 := Lib.hid d1
                              clear hix
                              go_wp2_with fail
                              go_quiet (fail)
                              go_wp2_with (at_builtin; first
                                | (refine wpList_append_to _ rfl (.tmp 138) (.tmp 144) 23 5 .u8 1 rfl Try.underlying23 (by kernel_rfl) (by omega) wc.heap.size (.slice A6 zs.length c6) zs rfl (HOJ.out.drewN _) B7 c7 t.bs.length t.bs rfl (HR7.out.drewN _) rfl (zs.length + t.bs.length) (zs ++ t.bs) rfl rfl (by omega) (by have := HBJ.out.size; simpa using this) ?_; intro A8 c8 w8 hap8; have HAP8 := Lib.hid hap8; clear hap8))
                              have hb8 := below_of_only (below_drewN HBJ.out _) HAP8.out.only (by have := HBJ.out.size; simpa using this) (fun x hx => (HOJ.out.lt x hx).1)
                              have HB8 := Lib.hid hb8
                              have hnew : xs ++ (((LT.map (·.1)).take (j + 1)).filter (fun t => t.id == p.id && t.ix == (k : Int))).flatMap (·.bs) = zs ++ t.bs := by rw [HFS.out, HD0.out, HD1.out, HZS.out]; simp
                              have HNEW := Lib.hid hnew
                              clear hb8 hnew
                              go_wp2_with fail
                              go_roundw
                              case rel => exact ⟨j + 1, A8, c8, by omega, by go_num, by rw [HNEW.out, List.length_append], by rw [HNEW.out, List.length_append]; exact HAP8.out.own, HB8.out⟩
                              case measure => simp [intOf]; omega
                            · have d1 : (t.ix == (k : Int)) = false := by simp [hix]
                              have HD1 := Lib.hid d1
                              have hnew : xs ++ (((LT.map (·.1)).take (j + 1)).filter (fun t => t.id == p.id && t.ix == (k : Int))).flatMap (·.bs) = zs := by rw [HFS.out, HD1.out, HZS.out]; simp
                              have HNEW := Lib.hid hnew
                              clear hix hnew
                              go_wp2_with fail
                              go_quiet (fail)
                              go_wp2_with fail
                              go_roundw
                              case rel => exact ⟨j + 1, A6, c6, by omega, by go_num, by rw [HNEW.out], by rw [HNEW.out]; exact HOJ.out.drewN _, below_drewN HBJ.out _⟩
                              case measure => simp [intOf]; omega
                          · have d0 : (t.id == p.id) = false := by simp [hid]
                            have HD0 := Lib.hid d0
                            have hnew : xs ++ (((LT.map (·.1)).take (j + 1)).filter (fun t => t.id == p.id && t.ix == (k : Int))).flatMap (·.bs) = zs := by rw [HFS.out, HD0.out, HZS.out]; simp
                            have HNEW := Lib.hid hnew
                            clear hid hnew
                            go_wp2_with fail
                            go_quiet (fail)
                            go_wp2_with fail
                            go_roundw
                            case rel => exact ⟨j + 1, A6, c6, by omega, by go_num, by rw [HNEW.out], by rw [HNEW.out]; exact HOJ.out.drewN _, below_drewN HBJ.out _⟩
                            case measure => simp [intOf]; omega
                        · obtain rfl : j = LT.length := by omega
                          have i1 : ¬ (LT.length : Int) < (L.length : Int) + 1 := by have := HLTL.out; omega
                          have hall : xs ++ (((LT.map (·.1)).take LT.length).filter (fun t => t.id == p.id && t.ix == (k : Int))).flatMap (·.bs) = rfull (LT.map (·.1)) p.id (k + 1) := by rw [List.take_of_length_le (by simp), HRS.out, ← HXS.out]
                          rw [hall] at HOJ ⊢
                          clear hall
                          go_wp2_with fail
                          go_roundw
                          case rel => exact ⟨k + 1, A6, c6, by omega, by go_num, rfl, HOJ.out, HBJ.out⟩
                          case measure => simp [intOf]; omega
                    · obtain rfl : k = ct := by omega
                      have rk0 := (hkc (w.heap.size + 2) 0 (by omega)).trans rr0
                      have fk0 := (hkf (w.heap.size + 2) 0 (by omega)).trans ff0
                      have HO := Lib.hid ho
                      have HBK := Lib.hid hbk
                      clear hkc hkf ho hbk
                      go_wp2_with fail
                      go_region
                      all_goals
                        go_wp2_with fail
                        refine bodyPost_ret (v := .tuple #[.slice A5 (rfull (LT.map (·.1)) p.id k).length c5, .bool true, .int .i64 0, .agg #[.slice A' (L.length + 1) c']]) (by simp [results, Try.results15, go_sem, rk0]) rfl ?_
                        have hgo2 : rtake (L.map (·.1)) p = (⟨rfull (LT.map (·.1)) p.id k, true, 0⟩, true) := by have := HGO.out; rw [← HLTM.out, show p.ct.toNat = k by simp [HCTE.out]] at this; exact this
                        have hB := HT'.out.below.trans (HBK.out.mono HT'.out.below.size)
                        exact RTakeAll.put hgo2 A' c' ((Keeps.row (S := fun i => i = w.heap.size + 2) ((Keeps.setCell (S := fun i => i = w.heap.size + 2) (p := ⟨w.heap.size + 2, 0, none⟩) (Keeps.refl _ _) (.inl rfl) _).drew) (OwnR.under HO'.out HBK.out) (fun b hb e => by have := (OwnR.blocks HO'.out b hb).1; omega))) (below_drew (hB.setCell (p := ⟨w.heap.size + 2, 0, none⟩) (show w.heap.size ≤ w.heap.size + 2 by omega) _)) (OwnI.mono (Keeps.own (S := fun i => i = w.heap.size + 2) ((Keeps.setCell (S := fun i => i = w.heap.size + 2) (p := ⟨w.heap.size + 2, 0, none⟩) (Keeps.refl _ _) (.inl rfl) _).drew) HO.out (fun b hb e => by have := (HO.out.lt b hb).1; omega)) (by omega)) rfl
end Go.Proofs.Ytpoobdccmaiaiaa
