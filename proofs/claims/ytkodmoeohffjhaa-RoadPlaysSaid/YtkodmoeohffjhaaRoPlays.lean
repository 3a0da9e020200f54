/- RoadPlays walked. -/
import Derived.Test.YtkodmoeohffjhaaRoPlayT
namespace Go.Proofs.Ytkodmoeohffjhaa
open Go.RowKit Go.Proofs.Ytkodmoeohffjhaa.Hp
set_option linter.unusedVariables false
set_option linter.unusedSimpArgs false

theorem agree0 {w w1 w3 : World} (hR : RoadF w.heap.size w.heap.size 0 0 [] (Plus (fun _ => False) w w1) w1) (hI : FInv 0 0 []) (hb : Below w.heap.size w w1) (h3 : Below (w1.alloc (.cells #[.int .i64 0, .int .i64 0, .slice none 0 0] 48)).heap.size (w1.alloc (.cells #[.int .i64 0, .int .i64 0, .slice none 0 0] 48)) w3) :
    Agree w.heap.size w.heap.size w1.heap.size 0 w w3 := by
  have hz := hb.size
  have h0 : Play w.heap.size w.heap.size w1.heap.size 0 0 [] (Plus (fun _ => False) w w1) 0 0 [] (fun _ => False) none 0 w (w1.alloc (.cells #[.int .i64 0, .int .i64 0, .slice none 0 0] 48)) := by
    refine ⟨hR.under (below_alloc (Below.refl _ _) _), ⟨⟨[], rfl, ReadC.nil _ _, by simp, by simp⟩, by simp [Value.ownBlock], by simp, Nat.zero_le _, .inl ⟨rfl, rfl⟩⟩, Blk.new _ _ _, by simp, ?_, by simp, ?_, by simp, hz, ?_, below_alloc hb _⟩
    · rintro (x | x)
      · exact x
      · omega
    · rintro b (x | x)
      · exact x.elim
      · exact x.1
    · rintro b (x | x)
      · exact x.elim
      · simp; omega
  exact ⟨0, 0, [], _, _, none, 0, h0.under h3, hI, by simp, by simp, by simp⟩
/-- Behind the road's Send: the copy is as it was. -/
theorem send_after {gr g4 g6 k : Nat} {q : OpD} {w wp w6 w8 : World} {A5 : Option Addr} {c5 : Nat} {G : Array Value} (hb6 : Below wp.heap.size wp w6) (x9 : Blk w6 wp.heap.size 32 G) (ho : OwnB w6 (wp.heap.size + 1) A5 c5 q.bs) (hr : ReadI w .u8 q.A q.bs)
    (hA : AgreeX w.heap.size gr g4 g6 k q (fun b => wp.heap.size ≤ b ∧ b < w6.heap.size) w w8) (hK : ∀ b, wp.heap.size ≤ b ∧ b < w6.heap.size → w8.heap[b]? = w6.heap[b]?) :
    w6.heap.size ≤ w8.heap.size ∧ Blk w8 wp.heap.size 32 G ∧ OwnB w8 (wp.heap.size + 1) A5 c5 q.bs ∧ ReadI w8 .u8 A5 q.bs ∧ ReadI w8 .u8 q.A q.bs := by
  have h9 := x9.lt
  have hz : w6.heap.size ≤ w8.heap.size := by
    obtain ⟨_, _, _, _, _, _, _, _, _, _, _, _, hX, _⟩ := hA
    have := (hX (w6.heap.size - 1) ⟨by omega, by omega⟩).2.2.2.2.1
    omega
  have hbase : Below w.heap.size w w8 := by obtain ⟨_, _, _, _, _, _, _, h, _⟩ := hA; exact h.base
  have ho8 : OwnB w8 (wp.heap.size + 1) A5 c5 q.bs := OwnR.same ho hz (fun b hb => hK b (by have := OwnI.lt ho b hb; omega))
  exact ⟨hz, (hK _ ⟨Nat.le_refl _, h9⟩).trans x9, ho8, OwnI.read ho8, hr.under hbase⟩
theorem sameB_eq (A B : Option Addr) (c d : Nat) (xs : List Int) (w : World) (hx : ReadI w .u8 A xs) (hy : ReadI w .u8 B xs) (hl : xs.length ≤ 17592186044415) :
    Calls Try.prog 11 #[.slice A xs.length c, .slice B xs.length d] w fun e w' => e = .returned (.bool true) ∧ Below w.heap.size w w' :=
  sameB_dec A B c d xs.length xs.length xs xs w true rfl rfl hx hy hl hl (by simp)
theorem send_bytes {w w' : World} {base c : Nat} {A : Option Addr} {bs : List Int} (h : OwnB w base A c bs) (hb : Below w.heap.size w w') : Bytes w' base A bs.length c := ⟨bs, rfl, OwnI.under h hb⟩
set_option maxHeartbeats 8000000 in
set_option maxRecDepth 100000 in
theorem plays_any (A : Option Addr) (n c : Nat) (L : List OpD) (w : World) (hO : OpsR w A L) (hn : n = L.length) (hl : n ≤ 9223372036854775807) :
    Calls Try.prog 5 #[.slice A n c] w fun e w' => e = .returned (.bool true) ∧ Below w.heap.size w w' := by
  have HN := Lib.hid hn
  have HO := Lib.hid hO
  have hN := Fnew w
  have HF := Lib.hid fixed_any
  clear hO hn
  go_enter Try.func5, Try.ntmps5
  go_upto_block 0 with (first
    | (go_at_call 7; refine hN.mono ?_; rintro e w1 ⟨rfl, hR, hI, hb⟩; have HR1 := Lib.hid hR; have HI1 := Lib.hid hI; have HB1 := Lib.hid hb; clear hR hI hb)
    | (go_at_call 8; refine (HF.out _).mono ?_; rintro e w2 ⟨rfl, hb⟩; have HA2 := Lib.hid (agree0 HR1.out HI1.out HB1.out hb); clear hb))
  generalize w1.heap.size = g4 at *
  clear HR1 HI1 HB1 hN HF
  go_wp2_with fail
  go_loopw [26] (fun i wr => ∃ k : Nat, k ≤ n ∧ k ≤ 101 ∧ i = .int .i64 k ∧ Agree w.heap.size w.heap.size g4 k w wr) (fun i _ => n - (intOf i).toNat)
  case atStart => exact ⟨0, by omega, by omega, rfl, HA2.out⟩
  case round =>
    obtain ⟨k, hk, hk101, rfl, hA⟩ := hrel
    obtain ⟨wo, rfl⟩ : ∃ x : World, x = wr := ⟨_, rfl⟩
    have hbase : Below w.heap.size w wo := by obtain ⟨_, _, _, _, _, _, _, h, _⟩ := hA; exact h.base
    have HA := Lib.hid hA
    have HBA := Lib.hid hbase
    have lzo := hbase.size
    clear hA hbase
    by_cases hlt : k < n
    · have i1 : (k : Int) < (n : Int) := by omega
      obtain ⟨q, hq⟩ : ∃ q, L[k]? = some q := ⟨_, List.getElem?_eq_getElem (by have := HN.out; omega)⟩
      obtain ⟨b, o, rfl, q0, q1, q2, q3, q4, q5⟩ := OpsR.cells (w := wo) ⟨HO.out.row.under HBA.out, fun q hq => ⟨(HO.out.bytes q hq).1.under HBA.out, (HO.out.bytes q hq).2⟩⟩ hq
      have lb := World.block_lt_of_cell? wo _ q0
      simp only at lb
      have HRB := Lib.hid ((HO.out.bytes q (List.mem_of_getElem? hq)).1.under HBA.out)
      have HRW := Lib.hid (HO.out.bytes q (List.mem_of_getElem? hq)).1
      have hbl := (HO.out.bytes q (List.mem_of_getElem? hq)).2
      clear hq
      have HEND := Lib.hid (fun (wx : World) (hb : Below wo.heap.size wo wx) => HBA.out.trans (hb.mono HBA.out.size))
      by_cases hbig : 100 < k
      · have t1 : decide ((100 : Int) < (k : Int)) = true := decide_eq_true (by omega)
        have t1' : decide (100 < k) = true := decide_eq_true (by omega)
        have t1'' : (100 : Int) < (k : Int) := by omega
        go_wp2_with fail
        go_ret
        exact ⟨rfl, HEND.out _ (below_alloc (Below.refl _ _) _)⟩
      · have t1 : decide ((100 : Int) < (k : Int)) = false := decide_eq_false (by omega)
        have t1' : decide (100 < k) = false := decide_eq_false (by omega)
        by_cases hlong : 1000 < q.bs.length
        · have t2 : decide ((1000 : Int) < (q.bs.length : Int)) = true := decide_eq_true (by omega)
          have t2' : decide (1000 < q.bs.length) = true := decide_eq_true (by omega)
          go_wp2_with fail
          go_ret
          exact ⟨rfl, HEND.out _ (below_alloc (Below.refl _ _) _)⟩
        · have t2 : decide ((1000 : Int) < (q.bs.length : Int)) = false := decide_eq_false (by omega)
          have t2' : decide (1000 < q.bs.length) = false := decide_eq_false (by omega)
          go_upto_block 2 with (fail)
          obtain ⟨wp, hwp⟩ : ∃ wp, wp = wo.alloc (.cells #[.int .i64 q.kind, .int .i64 q.i, .int .i64 q.n, .int .i64 q.addr, .bool q.down, .slice q.A q.bs.length q.c] 50) := ⟨_, rfl⟩
          rw [← hwp]
          have hbp : Below wo.heap.size wo wp := by rw [hwp]; exact below_alloc (Below.refl _ _) _
          have x6 : Blk wp wo.heap.size 50 #[.int .i64 q.kind, .int .i64 q.i, .int .i64 q.n, .int .i64 q.addr, .bool q.down, .slice q.A q.bs.length q.c] := by rw [hwp]; exact Blk.new _ _ _
          have hA6 := HA.out.six (q := q) hwp
          have hg6 : ¬ wo.heap.size = g4 := by obtain ⟨_, _, _, _, _, _, _, _, _, _, _, _, _, _, _, _, h⟩ := hA6; exact h
          have hg6' : ¬ g4 = wo.heap.size := fun e => hg6 e.symm
          have HAP := Lib.hid hA6
          clear hA6
          have HX6 := Lib.hid x6
          have HRP := Lib.hid (HRB.out.under hbp)
          have lzp := x6.lt
          have o0 : wp.cell? ⟨wo.heap.size, 0, none⟩ = some (.int .i64 q.kind) := x6.cell 0
          clear hwp hbp x6 q0 q1 q2 q3 q4 q5
          go_cut [7, 8, 9, 10, 11, 12, 13, 14, 15] from 42 to 175 (fun okv _ _ _ _ _ _ _ _ wx => okv = .bool true ∧ Agree6 w.heap.size w.heap.size g4 wo.heap.size (k + 1) q w wx)
          case first =>
            by_cases k0 : q.kind = 0
            · have t0 : (q.kind == 0) = true := by simp [k0]
              have o3 : wp.cell? ⟨wo.heap.size, 3, none⟩ = some (.int .i64 q.addr) := HX6.out.cell 3
              have o4 : wp.cell? ⟨wo.heap.size, 4, none⟩ = some (.bool q.down) := HX6.out.cell 4
              have o5 : wp.cell? ⟨wo.heap.size, 5, none⟩ = some (.slice q.A q.bs.length q.c) := HX6.out.cell 5
              clear k0
              go_upto_region 15 with (go_at_call 13; refine (copy_any q.A q.bs.length q.c q.bs _ rfl (HRP.out.under (below_alloc (Below.refl _ _) _)) (by omega)).mono ?_; rintro e w5 ⟨A5, c5, rfl, ho5, hb5⟩; have x9 := (Blk.new wp 32 #[.int .i64 q.addr, .bool q.down, .slice q.A q.bs.length q.c]).under hb5; have v2 : w5.cell? ⟨wp.heap.size, 2, none⟩ = some (.slice q.A q.bs.length q.c) := x9.cell 2; have vf2 : w5.frozen? ⟨wp.heap.size, 2, none⟩ = false := x9.frozen 2; have HX9 := Lib.hid x9; have HO5 := Lib.hid ho5; have HB5 := Lib.hid hb5; clear ho5 hb5 x9)
              obtain ⟨w6, hw6⟩ : ∃ w6, w6 = w5.setCell ⟨wp.heap.size, 2, none⟩ (.slice A5 q.bs.length c5) := ⟨_, rfl⟩
              rw [← hw6]
              have hz6 : w6.heap.size = w5.heap.size := by rw [hw6]; simp
              have hz5 := HB5.out.size
              simp only [World.alloc, Array.size_push] at hz5
              have k56 : Keeps (fun b => b = wp.heap.size) w5 w6 := by rw [hw6]; exact (Keeps.refl (fun b => b = wp.heap.size) w5).setCell (p := ⟨wp.heap.size, 2, none⟩) (.inl rfl) _
              have hb6 : Below wp.heap.size wp w6 := Keeps.below ((below_alloc (Below.refl wp.heap.size wp) _).trans (HB5.out.mono (by simp))) k56 (by omega) (fun b e => by omega)
              have x9 : Blk w6 wp.heap.size 32 #[.int .i64 q.addr, .bool q.down, .slice A5 q.bs.length c5] := by rw [hw6]; exact HX9.out.s3_2 _
              have ho6 : OwnB w6 (wp.heap.size + 1) A5 c5 q.bs := k56.own (OwnI.mono HO5.out (by simp)) (fun b hb e => by have := (OwnI.lt HO5.out b hb).1; simp at this; omega)
              have hAX : AgreeX w.heap.size w.heap.size g4 wo.heap.size k q (fun b => wp.heap.size ≤ b ∧ b < w6.heap.size) w w6 := AgreeX.own HAP.out hb6 (fun b h => h)
              have HAX := Lib.hid hAX
              have HO6 := Lib.hid ho6
              have HX96 := Lib.hid x9
              have HB6 := Lib.hid hb6
              have ro6 := OwnI.read ho6
              obtain ⟨now, put, Am, mm, cm, hbx, ans, hC⟩ := send_step hAX (by omega) A5 c5 (HRP.out.under hb6) ro6 (fun b o e => by have := OwnI.lt ho6 b (by rw [e]; rfl); omega) (by omega)
              have HC := Lib.hid hC
              have HBX := Lib.hid hbx
              have b0 : w6.cell? ⟨g4, 0, none⟩ = some (.int .i64 now) := hbx.cell 0
              have b1 : w6.cell? ⟨g4, 1, none⟩ = some (.int .i64 put) := hbx.cell 1
              have b2 : w6.cell? ⟨g4, 2, none⟩ = some (.slice Am mm cm) := hbx.cell 2
              have hx66 := HX6.out.under hb6
              have HX66 := Lib.hid hx66
              have j2 : w6.cell? ⟨wo.heap.size, 2, none⟩ = some (.int .i64 q.n) := hx66.cell 2
              have j3 : w6.cell? ⟨wo.heap.size, 3, none⟩ = some (.int .i64 q.addr) := hx66.cell 3
              have j4 : w6.cell? ⟨wo.heap.size, 4, none⟩ = some (.bool q.down) := hx66.cell 4
              have j5 : w6.cell? ⟨wo.heap.size, 5, none⟩ = some (.slice q.A q.bs.length q.c) := hx66.cell 5
              have ta : (ans == ans) = true := by simp
              have HL17 := Lib.hid (show q.bs.length ≤ 17592186044415 by omega)
              have g9a : ¬ g4 = wp.heap.size := by have := hbx.lt; have := HAX.out; obtain ⟨_, _, _, _, _, _, _, _, _, _, _, _, hXc, _⟩ := this; exact fun e => (hXc g4 ⟨by omega, hbx.lt⟩).2.2.1 rfl
              have g9b : ¬ wp.heap.size = g4 := fun e => g9a e.symm
              clear hC hbx hx66 ro6 hAX ho6 x9 k56 hw6 o0 o3 o4 o5 v2 vf2
              go_wp2_with (first
                | (go_at_call 18; refine HC.out.mono ?_; rintro e w7 ⟨n2, p2, A2, m2, c2, rfl, hb7, hx7, hz7, hC7⟩; have y7 := HBX.out.under hb7; have z7 := HX66.out.under hb7; have v7 := HX96.out.under hb7; have d0 : w7.cell? ⟨g4, 0, none⟩ = some (.int .i64 now) := y7.cell 0; have d1 : w7.cell? ⟨g4, 1, none⟩ = some (.int .i64 put) := y7.cell 1; have d2 : w7.cell? ⟨g4, 2, none⟩ = some (.slice Am mm cm) := y7.cell 2; have df0 : w7.frozen? ⟨g4, 0, none⟩ = false := y7.frozen 0; have df1 : w7.frozen? ⟨g4, 1, none⟩ = false := y7.frozen 1; have df2 : w7.frozen? ⟨g4, 2, none⟩ = false := y7.frozen 2; have e2 : w7.cell? ⟨wo.heap.size, 2, none⟩ = some (.int .i64 q.n) := z7.cell 2; have f0 : w7.cell? ⟨wp.heap.size, 0, none⟩ = some (.int .i64 q.addr) := v7.cell 0; have f1 : w7.cell? ⟨wp.heap.size, 1, none⟩ = some (.bool q.down) := v7.cell 1; have f2 : w7.cell? ⟨wp.heap.size, 2, none⟩ = some (.slice A5 q.bs.length c5) := v7.cell 2; have HC7 := Lib.hid hC7; clear hb7 hx7 hz7 hC7 y7 z7 v7)
                | (go_at_call 12; refine HC7.out.mono ?_; rintro e w8 ⟨rfl, hA8, hK8⟩; obtain ⟨s1, s2, s3, s4, s5⟩ := send_after HB6.out HX96.out HO6.out HRW.out hA8 hK8; have n2 : w8.cell? ⟨wp.heap.size, 2, none⟩ = some (.slice A5 q.bs.length c5) := s2.cell 2; have n5 : w8.cell? ⟨wo.heap.size, 5, none⟩ = some (.slice q.A q.bs.length q.c) := hA8.box.cell 5; have HA8 := Lib.hid hA8; have HX98 := Lib.hid s2; have HO8 := Lib.hid s3; have HR8 := Lib.hid s4; have HR9 := Lib.hid s5; have HSB := Lib.hid (sameB_eq A5 q.A c5 q.c q.bs w8 s4 s5 HL17.out); clear hA8 hK8 s2 s3 s4 s5)
                | (go_at_call 11; refine HSB.out.mono ?_; rintro e wa ⟨rfl, hba⟩; have HOA := Lib.hid (send_bytes HO8.out hba); have HXA := Lib.hid (HX98.out.under hba); have HAA := Lib.hid (HA8.out.under hba); have na : wa.cell? ⟨wp.heap.size, 2, none⟩ = some (.slice A5 q.bs.length c5) := HXA.out.cell 2; clear hba))
              go_loopw [78] (fun i wx => ∃ j : Nat, j ≤ q.bs.length ∧ i = .int .i64 j ∧ Bytes wx (wp.heap.size + 1) A5 q.bs.length c5 ∧ Blk wx wp.heap.size 32 #[.int .i64 q.addr, .bool q.down, .slice A5 q.bs.length c5] ∧ AgreeX w.heap.size w.heap.size g4 wo.heap.size (k + 1) q (fun b => wp.heap.size ≤ b ∧ b < w6.heap.size) w wx) (fun i _ => q.bs.length - (intOf i).toNat)
              case atStart => exact ⟨0, Nat.zero_le _, rfl, HOA.out, HXA.out, HAA.out⟩
              case round =>
                obtain ⟨j, hj, rfl, hby, hx, hag⟩ := hrel
                have lwx := hx.lt
                by_cases hjl : j < q.bs.length
                · obtain ⟨g, x, hAg, h1, h2, h3, h4, h5⟩ := hby.at hjl
                  have hgw : g < w6.heap.size := (OwnI.lt HO6.out g (by rw [hAg]; rfl)).2
                  subst hAg
                  have e2 : wr.cell? ⟨wp.heap.size, 2, none⟩ = some (.slice (some ⟨g, 0, none⟩) q.bs.length c5) := hx.cell 2
                  have i1 : (j : Int) < (q.bs.length : Int) := by omega
                  have HR := Lib.hid (fun y => (⟨h5 y, hx.far (p := ⟨g, j, none⟩) (by simp only; omega) _, hag.keeps ((Keeps.refl _ wr).setCell (p := ⟨g, j, none⟩) (.inl ⟨by simp only; omega, hgw⟩) _)⟩ : Bytes (wr.setCell ⟨g, j, none⟩ (.int .u8 y)) (wp.heap.size + 1) (some ⟨g, 0, none⟩) q.bs.length c5 ∧ Blk (wr.setCell ⟨g, j, none⟩ (.int .u8 y)) wp.heap.size 32 #[.int .i64 q.addr, .bool q.down, .slice (some ⟨g, 0, none⟩) q.bs.length c5] ∧ AgreeX w.heap.size w.heap.size g4 wo.heap.size (k + 1) q (fun b => wp.heap.size ≤ b ∧ b < w6.heap.size) w (wr.setCell ⟨g, j, none⟩ (.int .u8 y))))
                  clear hby hx hag h5 HOA HXA HAA HO8 HR8 HR9 HO6 HX98 HX96 HX66 HX9 HO5 HB5 HB6 HC HC7 HBX HA8 HAX
                  go_wp2_with fail
                  go_roundw
                  case rel => exact ⟨j + 1, by omega, by go_num, HR.out _⟩
                  case measure => simp [intOf]; omega
                · have HW := Lib.hid hag
                  have i1 : ¬ ((j : Int) < (q.bs.length : Int)) := by omega
                  clear hby hx hag
                  go_wp2_with fail
                  go_meet
                  case rel => exact ⟨rfl, HW.out.drop⟩
            · by_cases k1 : q.kind = 1
              · have t0 : (q.kind == 0) = false := by simp [k0]
                have t1 : (q.kind == 1) = true := by simp [k1]
                obtain ⟨now, put, Am, mm, cm, hbx, hC⟩ := tick_step HAP.out (by omega)
                have HC := Lib.hid hC
                have HBX := Lib.hid hbx
                have b0 : wp.cell? ⟨g4, 0, none⟩ = some (.int .i64 now) := hbx.cell 0
                have b1 : wp.cell? ⟨g4, 1, none⟩ = some (.int .i64 put) := hbx.cell 1
                have b2 : wp.cell? ⟨g4, 2, none⟩ = some (.slice Am mm cm) := hbx.cell 2
                clear hC hbx k0 k1
                go_wp2_with (first
                  | (go_at_call 19; refine HC.out.mono ?_; rintro e w7 ⟨O1, A1, c1, n2, p2, A2, m2, c2, rfl, hb7, hx7, hz7, hC7⟩; have y7 := HBX.out.under hb7; have d0 : w7.cell? ⟨g4, 0, none⟩ = some (.int .i64 now) := y7.cell 0; have d1 : w7.cell? ⟨g4, 1, none⟩ = some (.int .i64 put) := y7.cell 1; have d2 : w7.cell? ⟨g4, 2, none⟩ = some (.slice Am mm cm) := y7.cell 2; have df0 : w7.frozen? ⟨g4, 0, none⟩ = false := y7.frozen 0; have df1 : w7.frozen? ⟨g4, 1, none⟩ = false := y7.frozen 1; have df2 : w7.frozen? ⟨g4, 2, none⟩ = false := y7.frozen 2; have HC7 := Lib.hid hC7; clear hb7 hx7 hz7 hC7 y7)
                  | (go_at_call 10; refine HC7.out.mono ?_; rintro e w8 ⟨O, A3, c3, rfl, r1, r2, r3, r4, r5, hA8, hcm⟩; have HS8 := Lib.hid (gsame_any A3 A1 O.length O1.length c3 c1 O O1 w8 r1 r2 rfl rfl r3 r4 r5); have HA8 := Lib.hid hA8; have HCM := Lib.hid hcm; have HBL := Lib.hid r5; clear r1 r2 r3 r5 hA8 hcm)
                  | (go_at_call 20; refine HS8.out.mono ?_; rintro e wa ⟨rfl, hba⟩; have HAA := Lib.hid (HA8.out.under hba); have HCA := Lib.hid (HCM.out.under hba); clear hba))
                go_loopw [103] (fun i wx => ∃ j : Nat, j ≤ O.length ∧ i = .int .i64 j ∧ Came wx w.heap.size A3 O (fun b => ∃ p ∈ O, p.blk = some b) ∧ AgreeX w.heap.size w.heap.size g4 wo.heap.size (k + 1) q (fun b => ∃ p ∈ O, p.blk = some b) w wx) (fun i _ => O.length - (intOf i).toNat)
                case atStart => exact ⟨0, Nat.zero_le _, rfl, HCA.out, HAA.out⟩
                case round =>
                  obtain ⟨j, hj, rfl, hcr, hag⟩ := hrel
                  have HCR := Lib.hid hcr
                  have HAR := Lib.hid hag
                  clear hcr hag
                  by_cases hjl : j < O.length
                  · obtain ⟨p, hp⟩ : ∃ p, O[j]? = some p := ⟨_, List.getElem?_eq_getElem hjl⟩
                    obtain ⟨b, o, rfl, hcl⟩ := HCR.out.cell hp
                    have HP := Lib.hid hp
                    have hpl := HBL.out p (List.mem_of_getElem? hp)
                    have i1 : (j : Int) < (O.length : Int) := by omega
                    clear hp
                    go_wp2_with fail
                    go_loopw [112] (fun i wx => ∃ m : Nat, m ≤ p.1.bs.length ∧ i = .int .i64 m ∧ Came wx w.heap.size (some ⟨b, o, none⟩) O (fun b => ∃ p ∈ O, p.blk = some b) ∧ AgreeX w.heap.size w.heap.size g4 wo.heap.size (k + 1) q (fun b => ∃ p ∈ O, p.blk = some b) w wx) (fun i _ => p.1.bs.length - (intOf i).toNat)
                    case atStart => exact ⟨0, Nat.zero_le _, rfl, HCR.out, HAR.out⟩
                    case round =>
                      obtain ⟨m, hm, rfl, hcr, hag⟩ := hrel
                      by_cases hml : m < p.1.bs.length
                      · obtain ⟨b', o', g, x, hA, hg, h1, h2, h3, h4, h5⟩ := hcr.bump HP.out hml
                        injection hA with hA
                        injection hA with hb' ho'
                        subst hb' ho'
                        have i2 : (m : Int) < (p.1.bs.length : Int) := by omega
                        have HR := Lib.hid (fun y => (⟨h5 y, hag.keeps ((Keeps.refl _ wr).setCell (p := ⟨g, m, none⟩) (.inl h4) _)⟩ : Came (wr.setCell ⟨g, m, none⟩ (.int .u8 y)) w.heap.size (some ⟨b, o, none⟩) O (fun b => ∃ p ∈ O, p.blk = some b) ∧ AgreeX w.heap.size w.heap.size g4 wo.heap.size (k + 1) q (fun b => ∃ p ∈ O, p.blk = some b) w (wr.setCell ⟨g, m, none⟩ (.int .u8 y))))
                        clear hcr hag h5 h4 hg
                        go_wp2_with fail
                        go_roundw
                        case rel => exact ⟨m + 1, by omega, by go_num, HR.out _⟩
                        case measure => simp [intOf]; omega
                      · have HR := Lib.hid (And.intro hcr hag)
                        have i2 : ¬ ((m : Int) < (p.1.bs.length : Int)) := by omega
                        clear hcr hag
                        go_wp2_with fail
                        go_roundw
                        case rel => exact ⟨j + 1, by omega, by go_num, HR.out⟩
                        case measure => simp [intOf]; omega
                  · have i1 : ¬ ((j : Int) < (O.length : Int)) := by omega
                    go_wp2_with fail
                    go_meet
                    case rel => exact ⟨rfl, HAR.out.drop⟩
              · by_cases k2 : q.kind = 2
                · have t0 : (q.kind == 0) = false := by simp [k0]
                  have t1 : (q.kind == 1) = false := by simp [k1]
                  have t2 : (q.kind == 2) = true := by simp [k2]
                  obtain ⟨now, put, Am, mm, cm, hbx, ans, hC⟩ := drop_step HAP.out (by omega)
                  have HC := Lib.hid hC
                  have HBX := Lib.hid hbx
                  have b0 : wp.cell? ⟨g4, 0, none⟩ = some (.int .i64 now) := hbx.cell 0
                  have b1 : wp.cell? ⟨g4, 1, none⟩ = some (.int .i64 put) := hbx.cell 1
                  have b2 : wp.cell? ⟨g4, 2, none⟩ = some (.slice Am mm cm) := hbx.cell 2
                  have o1 : wp.cell? ⟨wo.heap.size, 1, none⟩ = some (.int .i64 q.i) := HX6.out.cell 1
                  have o2 : wp.cell? ⟨wo.heap.size, 2, none⟩ = some (.int .i64 q.n) := HX6.out.cell 2
                  have ta : (ans == ans) = true := by simp
                  clear hC hbx k0 k1 k2
                  go_wp2_with (first
                    | (go_at_call 21; refine HC.out.mono ?_; rintro e w7 ⟨n2, p2, A2, m2, c2, rfl, hb7, hx7, hz7, hC7⟩; have y7 := HBX.out.under hb7; have z7 := HX6.out.under hb7; have d0 : w7.cell? ⟨g4, 0, none⟩ = some (.int .i64 now) := y7.cell 0; have d1 : w7.cell? ⟨g4, 1, none⟩ = some (.int .i64 put) := y7.cell 1; have d2 : w7.cell? ⟨g4, 2, none⟩ = some (.slice Am mm cm) := y7.cell 2; have df0 : w7.frozen? ⟨g4, 0, none⟩ = false := y7.frozen 0; have df1 : w7.frozen? ⟨g4, 1, none⟩ = false := y7.frozen 1; have df2 : w7.frozen? ⟨g4, 2, none⟩ = false := y7.frozen 2; have e1 : w7.cell? ⟨wo.heap.size, 1, none⟩ = some (.int .i64 q.i) := z7.cell 1; have e2 : w7.cell? ⟨wo.heap.size, 2, none⟩ = some (.int .i64 q.n) := z7.cell 2; have HC7 := Lib.hid hC7; clear hb7 hx7 hz7 hC7 y7 z7)
                    | (go_at_call 17; refine HC7.out.mono ?_; rintro e w8 ⟨rfl, hA8, _⟩; have HA8 := Lib.hid hA8; clear hA8))
                  go_meet
                  case rel => exact ⟨rfl, HA8.out⟩
                · by_cases k3 : q.kind = 3
                  · have t0 : (q.kind == 0) = false := by simp [k0]
                    have t1 : (q.kind == 1) = false := by simp [k1]
                    have t2 : (q.kind == 2) = false := by simp [k2]
                    have t3 : (q.kind == 3) = true := by simp [k3]
                    obtain ⟨now, put, Am, mm, cm, hbx, ans, hC⟩ := double_step HAP.out (by omega) (Nat.le_refl _)
                    have HC := Lib.hid hC
                    have HBX := Lib.hid hbx
                    have b0 : wp.cell? ⟨g4, 0, none⟩ = some (.int .i64 now) := hbx.cell 0
                    have b1 : wp.cell? ⟨g4, 1, none⟩ = some (.int .i64 put) := hbx.cell 1
                    have b2 : wp.cell? ⟨g4, 2, none⟩ = some (.slice Am mm cm) := hbx.cell 2
                    have o1 : wp.cell? ⟨wo.heap.size, 1, none⟩ = some (.int .i64 q.i) := HX6.out.cell 1
                    have o2 : wp.cell? ⟨wo.heap.size, 2, none⟩ = some (.int .i64 q.n) := HX6.out.cell 2
                    have ta : (ans == ans) = true := by simp
                    clear hC hbx k0 k1 k2 k3
                    go_wp2_with (first
                      | (go_at_call 22; refine HC.out.mono ?_; rintro e w7 ⟨n2, p2, A2, m2, c2, rfl, hb7, hx7, hz7, hC7⟩; have y7 := HBX.out.under hb7; have z7 := HX6.out.under hb7; have d0 : w7.cell? ⟨g4, 0, none⟩ = some (.int .i64 now) := y7.cell 0; have d1 : w7.cell? ⟨g4, 1, none⟩ = some (.int .i64 put) := y7.cell 1; have d2 : w7.cell? ⟨g4, 2, none⟩ = some (.slice Am mm cm) := y7.cell 2; have df0 : w7.frozen? ⟨g4, 0, none⟩ = false := y7.frozen 0; have df1 : w7.frozen? ⟨g4, 1, none⟩ = false := y7.frozen 1; have df2 : w7.frozen? ⟨g4, 2, none⟩ = false := y7.frozen 2; have e1 : w7.cell? ⟨wo.heap.size, 1, none⟩ = some (.int .i64 q.i) := z7.cell 1; have e2 : w7.cell? ⟨wo.heap.size, 2, none⟩ = some (.int .i64 q.n) := z7.cell 2; have HC7 := Lib.hid hC7; clear hb7 hx7 hz7 hC7 y7 z7)
                      | (go_at_call 15; refine HC7.out.mono ?_; rintro e w8 ⟨rfl, hA8, _⟩; have HA8 := Lib.hid hA8; clear hA8))
                    go_meet
                    case rel => exact ⟨rfl, HA8.out⟩
                  · by_cases k4 : q.kind = 4
                    · have t0 : (q.kind == 0) = false := by simp [k0]
                      have t1 : (q.kind == 1) = false := by simp [k1]
                      have t2 : (q.kind == 2) = false := by simp [k2]
                      have t3 : (q.kind == 3) = false := by simp [k3]
                      have t4 : (q.kind == 4) = true := by simp [k4]
                      obtain ⟨now, put, Am, mm, cm, hbx, ans, hC⟩ := late_step HAP.out (by omega)
                      have HC := Lib.hid hC
                      have HBX := Lib.hid hbx
                      have b0 : wp.cell? ⟨g4, 0, none⟩ = some (.int .i64 now) := hbx.cell 0
                      have b1 : wp.cell? ⟨g4, 1, none⟩ = some (.int .i64 put) := hbx.cell 1
                      have b2 : wp.cell? ⟨g4, 2, none⟩ = some (.slice Am mm cm) := hbx.cell 2
                      have o1 : wp.cell? ⟨wo.heap.size, 1, none⟩ = some (.int .i64 q.i) := HX6.out.cell 1
                      have o2 : wp.cell? ⟨wo.heap.size, 2, none⟩ = some (.int .i64 q.n) := HX6.out.cell 2
                      have ta : (ans == ans) = true := by simp
                      clear hC hbx k0 k1 k2 k3 k4
                      go_wp2_with (first
                        | (go_at_call 23; refine HC.out.mono ?_; rintro e w7 ⟨n2, p2, A2, m2, c2, rfl, hb7, hx7, hz7, hC7⟩; have y7 := HBX.out.under hb7; have z7 := HX6.out.under hb7; have d0 : w7.cell? ⟨g4, 0, none⟩ = some (.int .i64 now) := y7.cell 0; have d1 : w7.cell? ⟨g4, 1, none⟩ = some (.int .i64 put) := y7.cell 1; have d2 : w7.cell? ⟨g4, 2, none⟩ = some (.slice Am mm cm) := y7.cell 2; have df0 : w7.frozen? ⟨g4, 0, none⟩ = false := y7.frozen 0; have df1 : w7.frozen? ⟨g4, 1, none⟩ = false := y7.frozen 1; have df2 : w7.frozen? ⟨g4, 2, none⟩ = false := y7.frozen 2; have e1 : w7.cell? ⟨wo.heap.size, 1, none⟩ = some (.int .i64 q.i) := z7.cell 1; have e2 : w7.cell? ⟨wo.heap.size, 2, none⟩ = some (.int .i64 q.n) := z7.cell 2; have HC7 := Lib.hid hC7; clear hb7 hx7 hz7 hC7 y7 z7)
                        | (go_at_call 24; refine HC7.out.mono ?_; rintro e w8 ⟨rfl, hA8, _⟩; have HA8 := Lib.hid hA8; clear hA8))
                      go_meet
                      case rel => exact ⟨rfl, HA8.out⟩
                    · have t0 : (q.kind == 0) = false := by simp [k0]
                      have t1 : (q.kind == 1) = false := by simp [k1]
                      have t2 : (q.kind == 2) = false := by simp [k2]
                      have t3 : (q.kind == 3) = false := by simp [k3]
                      have t4 : (q.kind == 4) = false := by simp [k4]
                      clear k0 k1 k2 k3 k4
                      go_wp2_with fail
                      go_meet
                      case rel => exact ⟨rfl, HAP.out.more (by omega)⟩
          case rest =>
            obtain ⟨hok, hAg6⟩ := hcut
            subst hok
            have hx6 := hAg6.box
            have hAg := hAg6.five
            have HA7 := Lib.hid hAg
            obtain ⟨now, put, F, S, T, Am, cm, hP, hI, hnow, hput, hFl⟩ := hAg
            have HP := Lib.hid hP
            have p0 : wc.cell? ⟨g4, 0, none⟩ = some (.int .i64 now) := hP.box.cell 0
            have p1 : wc.cell? ⟨g4, 1, none⟩ = some (.int .i64 put) := hP.box.cell 1
            have p2 : wc.cell? ⟨g4, 2, none⟩ = some (.slice Am F.length cm) := hP.box.cell 2
            have p6 : wc.cell? ⟨wo.heap.size, 1, none⟩ = some (.int .i64 q.i) := hx6.cell 1
            have HLK := Lib.hid (looks_any w.heap.size w.heap.size now put Am F.length cm q.i F S T wc hP.road hI hP.ref rfl (by omega))
            clear hP hI hx6
            go_wp2_with (go_at_call 25; refine HLK.out.mono ?_; rintro e w7 ⟨rfl, hb7⟩; have HA8 := Lib.hid (HA7.out.under hb7); clear hb7)
            go_roundw
            case rel => exact ⟨k + 1, by omega, by omega, by go_num, HA8.out⟩
            case measure => simp [intOf]; omega
    · have i1 : ¬ ((k : Int) < (n : Int)) := by omega
      go_wp2_with fail
      go_ret
      exact ⟨rfl, HBA.out⟩
end Go.Proofs.Ytkodmoeohffjhaa
