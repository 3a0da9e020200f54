/- The walk of the law RoadAll. -/
import Derived.Test.YtkodmoeohffjhaaRoAllI
import Derived.Deep.CutBlock
import Derived.Deep.DeepCutAuto
namespace Go.Proofs.Ytkodmoeohffjhaa
open Go.RowKit Go.Proofs.Ytkodmoeohffjhaa.Hp
set_option linter.unusedVariables false
set_option linter.unusedSimpArgs false

theorem AData.sent {now d : Int} {n : Nat} {F : List MD} {SB : List SE} {es ec : List (Int × Value)} {bs : List Int} {eA : Option Addr} {eC : Nat} (h : AData now n F SB es ec) (hd : 1 ≤ d ∧ d ≤ 64) (hb : bs.length ≤ 542) (hn : n ≤ 200) :
    AData now (n + 1) (insB ⟨now + d, n, n, false, bs⟩ F) (SB ++ [(bs, eA, eC)]) (es ++ [((n : Int), .int .i64 (now + d))]) ec := by
  have hcnt := h.cnt
  have hnum : ∀ q ∈ F, q.number < n := fun q hq => (h.inv.num q hq).2
  have hlen := h.len
  have hi := h.inv.add (d := ⟨now + d, n, n, false, bs⟩) rfl (by simp only; omega) (by omega) hb (by simp only; omega) (by omega)
  refine ⟨by push_cast; exact hi, fun q hq => ?_, fun q hq => ?_, fun q hq => ?_, fun q hq => ?_, by rw [insB_len]; omega, ⟨fun p hp => ?_, fun p hp => by have := h.hi.2 p hp; omega⟩, by simp; omega⟩
  · rcases insB_mem.1 hq with e | e
    · rw [e]
    · exact h.adr q e
  · rcases insB_mem.1 hq with e | e
    · rw [e]
      exact lk_snoc_eq _ _ _ (lk_none _ _ (fun p hp => by have := h.hi.1 p hp; omega))
    · rw [lk_snoc_ne _ _ _ _ (by have := hnum q e; omega)]
      exact h.due q e
  · rcases insB_mem.1 hq with e | e
    · rw [e]
      exact lk_none _ _ (fun p hp => by have := h.hi.2 p hp; simp only; omega)
    · exact h.new q e
  · rcases insB_mem.1 hq with e | e
    · rw [e]
      exact ⟨(bs, eA, eC), by simp only [Int.toNat_natCast]; rw [List.getElem?_append_right (by omega)]; simp [hlen], rfl⟩
    · obtain ⟨x, hx, hxb⟩ := h.byt q e
      exact ⟨x, by rw [List.getElem?_append_left (getElem?_lt hx)]; exact hx, hxb⟩
  · rcases List.mem_append.1 hp with hp | hp
    · have := h.hi.1 p hp; omega
    · rw [List.mem_singleton.1 hp]; simp only; omega
/-- What stands behind k mails. -/
def AllK (a : AAdr) (k : Nat) (w0 w : World) : Prop := ∃ (now : Int) (F : List MD) (SB : List SE) (es ec : List (Int × Value)) (A : Option Addr) (c : Nat) (S : Nat → Prop), now ≤ 4 * k ∧ AllR a now now k F SB es ec A c S w0 w ∧ AData now k F SB es ec
theorem AllK.below {a : AAdr} {k : Nat} {w0 w : World} (h : AllK a k w0 w) : Below w0.heap.size w0 w := by
  obtain ⟨now, F, SB, es, ec, A, c, S, h1, h2, h3⟩ := h
  exact h2.below
theorem AllK.under {a : AAdr} {k : Nat} {w0 w w' : World} (h : AllK a k w0 w) (hb : Below w.heap.size w w') : AllK a k w0 w' := by
  obtain ⟨now, F, SB, es, ec, A, c, S, h1, h2, h3⟩ := h
  exact ⟨now, F, SB, es, ec, A, c, S, h1, h2.under hb, h3⟩
/-- Ticks while the k-th mail is at hand: its box stays. -/
structure AllJ (a : AAdr) (k j g : Nat) (X : Array Value) (SB : List SE) (A : Option Addr) (c : Nat) (w0 w : World) : Prop where
  out : ∃ (now : Int) (F : List MD) (es ec : List (Int × Value)) (S : Nat → Prop), now ≤ 4 * k + j ∧ AllR a now now k F SB es ec A c S w0 w ∧ AData now k F SB es ec ∧ (∀ b, S b ∨ LBlk a SB A c b → b < g)
  box : Blk w g 35 X
/-- The closure's call. -/
theorem tickj (a : AAdr) (k j g : Nat) (X : Array Value) (SB : List SE) (A : Option Addr) (c : Nat) (w0 w : World) (h : AllJ a k j g X SB A c w0 w) (hk : 4 * k + j < 9999) :
    Calls Try.prog 9 #[.pointer (some ⟨a.bn, 0, none⟩), .pointer (some ⟨a.br, 0, none⟩), .pointer (some ⟨a.bs, 0, none⟩), .pointer (some ⟨a.bd, 0, none⟩), .pointer (some ⟨a.bc, 0, none⟩)] w fun e w' => e = .returned (.bool true) ∧ AllJ a k (j + 1) g X SB A c w0 w' := by
  obtain ⟨now, F, es, ec, S, h1, h2, h3, h4⟩ := h.out
  refine (tickc_any a now k F SB es ec A c S w0 w h2 h3 (by omega)).mono (fun e w' hh => ⟨hh.1, ?_⟩)
  obtain ⟨ec', S', h5, h6, h7, h8⟩ := hh.2
  exact ⟨⟨now + 1, _, es, ec', S', by omega, h5, h6, fun b hb => h4 b (hb.imp_left (h7 b))⟩, h8.blk h.box (fun hb => by have := h4 g hb; omega)⟩
/-- The ticks at the end. -/
def AllE (a : AAdr) (k : Nat) (now : Int) (j : Nat) (SB : List SE) (A : Option Addr) (c : Nat) (w0 w : World) : Prop :=
  ∃ (F : List MD) (es ec : List (Int × Value)) (S : Nat → Prop), AllR a (now + j) (now + j) k F SB es ec A c S w0 w ∧ AData (now + j) k F SB es ec ∧ ∀ q ∈ F, q.due ≤ now + 64
theorem ticke (a : AAdr) (k : Nat) (now : Int) (j : Nat) (SB : List SE) (A : Option Addr) (c : Nat) (w0 w : World) (h : AllE a k now j SB A c w0 w) (hk : now + j < 9999) :
    Calls Try.prog 9 #[.pointer (some ⟨a.bn, 0, none⟩), .pointer (some ⟨a.br, 0, none⟩), .pointer (some ⟨a.bs, 0, none⟩), .pointer (some ⟨a.bd, 0, none⟩), .pointer (some ⟨a.bc, 0, none⟩)] w fun e w' => e = .returned (.bool true) ∧ AllE a k now (j + 1) SB A c w0 w' := by
  obtain ⟨F, es, ec, S, h2, h3, h4⟩ := h
  refine (tickc_any a (now + j) k F SB es ec A c S w0 w h2 h3 (by omega)).mono (fun e w' hh => ⟨hh.1, ?_⟩)
  obtain ⟨ec', S', h5, h6, h7, h8⟩ := hh.2
  have e1 : now + ((j + 1 : Nat) : Int) = now + j + 1 := by omega
  refine ⟨_, es, ec', S', by rw [e1]; exact h5, by rw [e1]; exact h6, fun q hq => h4 q (List.mem_filter.1 hq).1⟩
theorem all_apped {g k c : Nat} {A A' : Option Addr} {c' base : Nat} {w7 w8 w9 : World} {n : Nat} {xs : List Value} {o : Obj} {t : TypeId} (hx : Blk w7 g t #[.slice A n c]) (hn : n = k) (hb : Below w7.drew.heap.size w7.drew w8) (ha : AppedR (w8.alloc o) w9 base 30 1 (.slice A k c) (.slice A' (k + 1) c') (k + 1) xs) (hne : (Value.slice A k c).ownBlock ≠ some g) :
    Blk w9 g t #[.slice A k c] := by
  subst hn
  exact (((hx.drew).under hb).alloc o).grown ha.only (fun e => hne e.symm)
theorem all_round {a : AAdr} {nb now : Int} {n k : Nat} {F : List MD} {SB : List SE} {es ec : List (Int × Value)} {A A' : Option Addr} {c c' : Nat} {S : Nat → Prop} {w0 w7 w8 w9 : World} {bs : List Int} {eA : Option Addr} {eC : Nat} {o : Obj} (_ : w0.heap.size ≤ a.gr) (hk : SB.length = k) (h : AllR a nb now n F SB es ec A c S w0 w7) (hb : Below w7.drew.heap.size w7.drew w8) (he : OwnI w8 w7.drew.heap.size 5 .u8 (.slice eA bs.length eC) bs)
    (ha : AppedR (w8.alloc o) w9 (a.bc + 1) 30 1 (.slice A k c) (.slice A' (k + 1) c') (k + 1) (SB.map SE.v ++ [.slice eA bs.length eC])) :
    AllR a nb now n F (SB ++ [(bs, eA, eC)]) es ec A' c' S w0 (w9.setCell ⟨a.bs, 0, none⟩ (.slice A' (k + 1) c')) := by
  subst hk
  have hb' : Below w7.heap.size w7 w8 := (below_drew (Below.refl _ _)).trans (hb.mono (by simp))
  exact h.more (e := (bs, eA, eC)) (hb'.alloc hb'.size o) (OwnI.alloc he o) ha
set_option maxHeartbeats 4000000 in
set_option maxRecDepth 100000 in
theorem rall_any (C : Option Addr) (m d : Nat) (M : List MI) (w : World) (hm : m = M.length) (hmb : m ≤ 9223372036854775807) (hM : MailsR w C M) : Calls Try.prog 3 #[.slice C m d] w fun e w' => e = .returned (.bool true) ∧ Below w.heap.size w w' := by
  have hN := Fnew w
  have HF := Lib.hid fixed_any
  have HM := Lib.hid hM
  have HMM := Lib.hid hm
  clear hM hm
  have hmm := @run_makeMap Try.prog
  go_enter Try.func3, Try.ntmps3
  go_upto_block 0 with (first
    | (go_at_call 7; refine hN.mono ?_; rintro e w1 ⟨rfl, hR, hI, hb⟩; have HR1 := Lib.hid hR; have HB1 := Lib.hid hb; clear hR hI hb)
    | (go_at_call 8; refine (HF.out _).mono ?_; rintro e w2 ⟨rfl, hb⟩; have HA2 := Lib.hid (all_head HR1.out HB1.out rfl hb); clear hb HR1 HB1))
  clear hmm hN
  generalize hW : (((((w2.alloc (Obj.cells #[Value.int IntKind.i64 0] 3)).alloc (Obj.map #[] 0)).alloc (Obj.cells #[Value.map (some (w2.heap.size + 1))] 26)).alloc (Obj.cells #[Value.slice none 0 0] 27)).alloc (Obj.map #[] 0)).alloc (Obj.cells #[Value.map (some (w2.heap.size + 1 + 1 + 1 + 1))] 26) = W0
  rw [hW] at HA2
  clear hW
  generalize w1.heap.size = g1 at *
  generalize w2.heap.size = g2 at *
  go_cut [9, 10, 11] from 24 to 72 (fun _ _ _ wx => ∃ k, k ≤ 61 ∧ AllK (adrs w.heap.size g1 g2) k w wx)
  case first =>
    go_wp2_with fail
    go_loopw [24] (fun i wr => ∃ k : Nat, k ≤ m ∧ k ≤ 61 ∧ i = .int .i64 k ∧ AllK (adrs w.heap.size g1 g2) k w wr) (fun i _ => m - (intOf i).toNat)
    case atStart => exact ⟨0, by omega, by omega, rfl, 0, [], [], [], [], none, 0, _, by omega, HA2.out, adata0⟩
    case round =>
      obtain ⟨k, hk, hk61, rfl, hK⟩ := hrel
      have HK := Lib.hid hK
      clear hK
      by_cases hlt : k < m
      · obtain ⟨⟨be, de, bs, B, cb⟩, hq⟩ : ∃ q, M[k]? = some q := ⟨_, List.getElem?_eq_getElem (by have := HMM.out; omega)⟩
        have hMr := HM.out.under HK.out.below
        obtain ⟨x, y, hC, q0, q1, q2⟩ := hMr.cells hq
        simp only at q0 q1 q2
        have hCb := hC
        have hbl := (HM.out.bytes _ (List.mem_of_getElem? hq)).2
        have hBr := (HM.out.bytes _ (List.mem_of_getElem? hq)).1
        simp only at hbl hBr
        have HBR := Lib.hid hBr
        subst hC
        clear hq hMr hBr hCb
        have i1 : (k : Int) < (m : Int) := by omega
        have lx := World.block_lt_of_cell? wr _ q0
        simp only at lx
        by_cases h60 : 60 < k
        · have t1 : (60 : Int) < (k : Int) := by omega
          have HX := Lib.hid (fun o => HK.out.under (below_alloc (Below.refl wr.heap.size wr) o))
          go_wp2_with fail
          go_meet
          case rel => exact ⟨k, hk61, HX.out _⟩
        · have t1 : decide ((60 : Int) < (k : Int)) = false := decide_eq_false (by omega)
          by_cases h542 : 542 < bs.length
          · have t2 : (542 : Int) < (bs.length : Int) := by omega
            have HX := Lib.hid (fun o => HK.out.under (below_alloc (Below.refl wr.heap.size wr) o))
            go_wp2_with fail
            go_meet
            case rel => exact ⟨k, hk61, HX.out _⟩
          · have t2 : decide ((542 : Int) < (bs.length : Int)) = false := decide_eq_false (by omega)
            have HB542 := Lib.hid (show bs.length ≤ 542 by omega)
            obtain ⟨t, ht⟩ : ∃ t : Nat, (t : Int) = max 0 (min be 3) ∧ t ≤ 3 := ⟨(max 0 (min be 3)).toNat, by omega, by omega⟩
            obtain ⟨ht, ht3⟩ := ht
            obtain ⟨now, F, SB, es, ec, A, c, S, hnow, hA, hD⟩ := HK.out
            have HJ0 := Lib.hid (show AllJ (adrs w.heap.size g1 g2) k 0 wr.heap.size #[.int .i64 be, .int .i64 de, .slice B bs.length cb] SB A c w (wr.alloc (.cells #[.int .i64 be, .int .i64 de, .slice B bs.length cb] 35)) from ⟨⟨now, F, es, ec, S, by omega, hA.under (below_alloc (Below.refl _ _) _), hD, fun b hb => by
              rcases hb with e | e
              · exact (hA.slt b e).2
              · exact (hA.mem.lt b e).2⟩, Blk.new _ _ _⟩)
            clear hA hD hnow
            go_wp2_with fail
            obtain ⟨wo, rfl⟩ : ∃ wo : World, wo = wr := ⟨_, rfl⟩
            go_loopw [41] (fun i wx => ∃ j : Nat, j ≤ t ∧ i = .int .i64 j ∧ AllJ (adrs w.heap.size g1 g2) k j wo.heap.size #[.int .i64 be, .int .i64 de, .slice B bs.length cb] SB A c w wx) (fun i _ => t - (intOf i).toNat)
            case atStart => exact ⟨0, by omega, rfl, HJ0.out⟩
            case round =>
              obtain ⟨j, hj, rfl, hJ⟩ := hrel
              have HJ := Lib.hid hJ
              clear hJ
              by_cases hjt : j < t
              · have i2 : (j : Int) < max 0 (min be 3) := by omega
                go_wp2_with (go_at_call 9; refine (tickj (adrs w.heap.size g1 g2) k j wo.heap.size _ SB A c w _ HJ.out (by omega)).mono ?_; rintro e w5 ⟨rfl, hJ⟩; have HJ5 := Lib.hid hJ; clear hJ)
                go_roundw
                case rel => exact ⟨j + 1, by omega, by go_num, HJ5.out⟩
                case measure => simp [intOf]; omega
              · have i2 : ¬ (j : Int) < max 0 (min be 3) := by omega
                obtain ⟨now', F', es', ec', S', hnow', hA', hD', hlt10⟩ := HJ.out.out
                have b1 : wr.cell? ⟨wo.heap.size, 1, none⟩ = some (.int .i64 de) := HJ.out.box.cell 1
                have b2 : wr.cell? ⟨wo.heap.size, 2, none⟩ = some (.slice B bs.length cb) := HJ.out.box.cell 2
                have hkl : SB.length = k := hD'.len
                have b3 : wr.cell? ⟨g2 + 1 + 1 + 1, 0, none⟩ = some (.slice A k c) := by rw [← hkl]; exact hA'.mem.xs.cell 0
                have b4 : wr.cell? ⟨g1, 0, none⟩ = some (.pointer (some ⟨w.heap.size, 0, none⟩)) := hA'.mem.xr.cell 0
                have hcnt := hD'.cnt
                have hpos := hD'.inv.pos
                have n0 : 0 ≤ now' := hpos.1
                have n1 : now' ≤ 1000 := by omega
                have HS := Lib.hid (Fsend_ok w.heap.size w.heap.size now' k F' S' (k : Int) false B bs.length cb bs (max 1 (min de 64)) wr hA'.road hD'.inv (by omega) (by simp [sendB]; omega) (by have := hA'.below.size; omega) (HBR.out.under hA'.below) rfl)
                have HA' := Lib.hid hA'
                have HD' := Lib.hid hD'
                have HL10 := Lib.hid hlt10
                have HBX := Lib.hid HJ.out.box
                have HKL := Lib.hid hkl
                have k61 : k < 61 := by omega
                clear hA' hD' hlt10 hcnt hpos HJ hkl
                have hz1 : 1 ≤ max 1 (min de 64) ∧ max 1 (min de 64) ≤ 64 := by omega
                go_upto_region 22 with (first
                  | (go_at_call 12; refine HS.out.mono ?_; rintro e w6 ⟨rfl, hF⟩; have H6 := Lib.hid (HA'.out.sent (n' := k + 1) hF (by omega)); have HK6 := Lib.hid hF.2; have HBX6 := Lib.hid (hF.2.blk HBX.out (fun hb => by have := HL10.out _ (.inl hb); omega)); have c1 : w6.cell? ⟨g2 + 1 + 1, 0, none⟩ = some (.map (some (g2 + 1))) := H6.out.mem.xd.cell 0; have c2 : w6.cell? ⟨g2 + 1 + 1 + 1, 0, none⟩ = some (.slice A k c) := HKL.out ▸ H6.out.mem.xs.cell 0; have c3 : w6.cell? ⟨g2, 0, none⟩ = some (.int .i64 now') := H6.out.mem.xn.cell 0; have HNEW := Lib.hid (lk_none es' (k : Int) (fun p hp => by have := HD'.out.hi.1 p hp; omega)); clear hF)
                  | (refine wpList_store_map _ rfl (.tmp 60) (.tmp 62) (.tmp 65) 26 3 3 rfl Try.underlying26 (g2 + 1) .i64 Try.underlying3 es' (k : Int) (.int .i64 (now' + max 1 (min de 64))) (by rfl) (by rfl) (by rfl) H6.out.mem.md HNEW.out ?_; intro w7 hM7 hg7; have H7 := Lib.hid (H6.out.putD hM7 hg7); have HBX7 := Lib.hid ((Keeps.grown hg7 (S := fun b => b = g2 + 1) (fun g h => by injection h with h; exact h.symm)).blk HBX6.out (fun e => by have := HL10.out (g2 + 1) (.inr (.inr (.inr (.inl rfl)))); omega)); have d1 : w7.cell? ⟨g2 + 1 + 1 + 1, 0, none⟩ = some (.slice A k c) := HKL.out ▸ H7.out.mem.xs.cell 0; have d2 : w7.cell? ⟨wo.heap.size, 2, none⟩ = some (.slice B bs.length cb) := HBX7.out.cell 2; have d3 : w7.frozen? ⟨g2 + 1 + 1 + 1, 0, none⟩ = false := H7.out.mem.xs.frozen 0; have ld1 : g2 + 1 + 1 + 1 < w7.heap.size := H7.out.mem.xs.lt; have ld2 := HBX7.out.lt; clear hM7 hg7))
                have hcp := Lib.hid (fun W (hb : Below w7.heap.size w7 W) => copy_any B bs.length cb bs W rfl ((HBR.out.under H7.out.below).under hb) (by omega))
                have HR7 := Lib.hid (show OwnR w7 (g2 + 1 + 1 + 1 + 1 + 1 + 1) 30 1 (.slice A k c) k (SB.map SE.v) from HKL.out ▸ H7.out.mem.row)
                have HC7 := Lib.hid (show g2 + 1 + 1 + 1 + 1 + 1 < w7.heap.size from H7.out.mem.xc.lt)
                have HRB7 := Lib.hid (show (Value.slice A k c).ownBlock ≠ some (g2 + 1 + 1 + 1) from fun e => by have := (OwnR.blocks HR7.out _ e).1; omega)
                clear b1 b2 b3 b4 c1 c2 c3
                go_region_law (first
                  | (go_simp; go_at_call 13; refine (hcp.out _ (below_drew (Below.refl _ _))).mono ?_; rintro e w8 ⟨eA, eC, rfl, he8, hb8⟩; have e1 : w8.cell? ⟨g2 + 1 + 1 + 1, 0, none⟩ = some (.slice A k c) := (hb8.cell (p := ⟨g2 + 1 + 1 + 1, 0, none⟩) ld1).trans d1; have le1 : g2 + 1 + 1 + 1 < w8.heap.size := (by have := hb8.size; simp at this; omega); have HE8 := Lib.hid he8; have HB8 := Lib.hid hb8; have HR8 := Lib.hid ((HR7.out.under (below_drew (Below.refl _ _))).under hb8); clear he8 hb8)
                  | (refine step_append_cells _ rfl (.tmp 66) (.tmp 70) 27 30 1 24 (by rfl) Try.underlying27 (by kernel_rfl) (by omega) (by omega) (g2 + 1 + 1 + 1 + 1 + 1 + 1) (.slice A k c) k (SB.map SE.v) (by rfl) (HR8.out.under (below_alloc (Below.refl _ _) _)) (some ⟨w8.heap.size, 0, none⟩) 1 1 [.slice eA bs.length eC] (by rfl) (Blk.read (Blk.new w8 _ _)) rfl (by intro u hu; rw [List.mem_singleton.1 hu]; rfl) (k + 1) rfl _ rfl (by omega) (by have := HB8.out.size; simp at this; have := HC7.out; simp; omega) ?_; intro A9 c9 w9 hap; have hX9 := all_apped (H7.out.mem.xs) HKL.out HB8.out hap HRB7.out; have x9 := hX9.cell 0; have y9 := hX9.frozen 0; simp at x9; have HAP := Lib.hid hap; clear hap hX9))
                all_goals
                  have hfin := Lib.hid (all_round HA'.out.base HKL.out H7.out HB8.out HE8.out HAP.out)
                  have hdat := Lib.hid (HD'.out.sent (eA := eA) (eC := eC) hz1 HB542.out (by omega))
                  have hnk : now' ≤ 4 * ((k + 1 : Nat) : Int) := by omega
                  clear HS HA' HD' HL10 HBX HKL H6 HK6 HBX6 HNEW H7 HBX7 hcp HR7 HC7 HRB7 HE8 HB8 HR8 HAP
                  go_wp2_with fail
                  go_roundw
                  case rel => exact ⟨k + 1, by omega, by omega, by go_num, now', _, _, _, _, _, _, _, hnk, hfin.out, hdat.out⟩
                  case measure => simp [intOf]; omega
      · go_wp2_with fail
        go_meet
        case rel => exact ⟨k, hk61, HK.out⟩
  case rest =>
    obtain ⟨k, hk61, hK⟩ := hcut
    obtain ⟨now, F, SB, es, ec, A, c, S, hnow, hA, hD⟩ := hK
    have HA := Lib.hid hA
    have HD := Lib.hid hD
    have n0 := hD.inv.pos.1
    have hFd : ∀ q ∈ F, q.due ≤ now + 64 := fun q hq => (hD.inv.due q hq).2
    have HFD := Lib.hid hFd
    clear hA hD hFd
    go_wp2_with fail
    go_loopw [73] (fun i wx => ∃ j : Nat, j ≤ 64 ∧ i = .int .i64 j ∧ AllE (adrs w.heap.size g1 g2) k now j SB A c w wx) (fun i _ => 64 - (intOf i).toNat)
    case atStart => exact ⟨0, by omega, rfl, ⟨F, es, ec, S, by simpa using HA.out, by simpa using HD.out, HFD.out⟩⟩
    case round =>
      obtain ⟨j, hj, rfl, hE⟩ := hrel
      have HE := Lib.hid hE
      clear hE
      by_cases hlt : j < 64
      · have i1 : (j : Int) < 64 := by omega
        go_wp2_with (go_at_call 9; refine (ticke (adrs w.heap.size g1 g2) k now j SB A c w _ HE.out (by omega)).mono ?_; rintro e w5 ⟨rfl, hE⟩; have HE5 := Lib.hid hE; clear hE)
        go_roundw
        case rel => exact ⟨j + 1, by omega, by go_num, HE5.out⟩
        case measure => simp [intOf]; omega
      · obtain rfl : j = 64 := by omega
        obtain ⟨F5, es5, ec5, S5, hA5, hD5, hF5⟩ := HE.out
        have hF0 : F5 = [] := by
          cases F5 with
          | nil => rfl
          | cons q F6 =>
            have h1 := hF5 q (List.mem_cons_self ..)
            have h2 := (hD5.inv.due q (List.mem_cons_self ..)).1
            push_cast at h2
            omega
        subst hF0
        have he5 : ec5.length = k := by have := hD5.cnt; simpa using this
        have hk5 : SB.length = k := hD5.len
        have c1 : wr.cell? ⟨g2 + 1 + 1 + 1 + 1 + 1, 0, none⟩ = some (.map (some (g2 + 1 + 1 + 1 + 1))) := hA5.mem.xc.cell 0
        have c2 : wr.cell? ⟨g2 + 1 + 1 + 1, 0, none⟩ = some (.slice A k c) := hk5 ▸ hA5.mem.xs.cell 0
        have c3 : wr.cell? ⟨g1, 0, none⟩ = some (.pointer (some ⟨w.heap.size, 0, none⟩)) := hA5.mem.xr.cell 0
        have hlen : ∀ ty, (Builtin.len_ #[26] ty #[.map (some (g2 + 1 + 1 + 1 + 1))]).run Try.prog wr = .ok (.int .i64 k) wr := fun ty => by
          have := hA5.mem.mc.len (P := Try.prog) Try.underlying26 ty
          rw [he5] at this
          exact this
        have HC := Lib.hid (Fcount w.heap.size w.heap.size _ _ [] S5 wr hA5.road hD5.inv)
        have HB := Lib.hid hA5.below
        have te : ((k : Int) == (k : Int)) = true := by simp
        clear hA5 hD5 hF5 he5 hk5 HE
        go_wp2_with (go_at_call 14; refine HC.out.mono ?_; rintro e w' ⟨rfl, rfl⟩)
        go_ret
        exact ⟨rfl, HB.out⟩
end Go.Proofs.Ytkodmoeohffjhaa
