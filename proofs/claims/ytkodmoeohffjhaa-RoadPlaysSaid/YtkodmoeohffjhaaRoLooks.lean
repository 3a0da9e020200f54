/- The law's looks walked: is what is under way the document's? -/
import Derived.Test.YtkodmoeohffjhaaRoRtick
namespace Go.Proofs.Ytkodmoeohffjhaa
open Go.RowKit Go.Proofs.Ytkodmoeohffjhaa.Hp
set_option linter.unusedVariables false
set_option linter.unusedSimpArgs false

/-- A byte of a block of one's own. -/
theorem bump {w : World} {base : Nat} {A : Option Addr} {c j : Nat} {bs : List Int} {x : Int} (h : OwnB w base A c bs) (hj : bs[j]? = some x) :
    ∃ g, A = some ⟨g, 0, none⟩ ∧ base ≤ g ∧ g < w.heap.size ∧ w.cell? ⟨g, j, none⟩ = some (.int .u8 x) ∧ w.frozen? ⟨g, j, none⟩ = false ∧ ∀ y, OwnB (w.setCell ⟨g, j, none⟩ (.int .u8 y)) base A c (bs.set j y) := by
  have hl := getElem?_lt hj
  have h' : OwnR w base 5 1 (.slice A bs.length c) bs.length (bs.map (Value.int .u8)) := h
  obtain ⟨g, rfl⟩ : ∃ g, A = some ⟨g, 0, none⟩ := by
    rcases h'.2 with ⟨h1, _⟩ | ⟨g, cap, cur, h1, _⟩
    · injection h1 with h2 h3
      omega
    · injection h1 with h2
      exact ⟨g, h2⟩
  have hg := OwnR.blocks h' g rfl
  refine ⟨g, rfl, hg.1, hg.2, OwnR.cell h' j _ (by rw [List.getElem?_map, hj]; rfl), OwnR.frozen h' j, fun y => ?_⟩
  have := OwnR.set_ h' j (.int .u8 y)
  show OwnR _ base 5 1 (.slice (some ⟨g, 0, none⟩) (bs.set j y).length c) (bs.set j y).length ((bs.set j y).map (Value.int .u8))
  rw [List.length_set, List.map_set]
  exact this
/-- Bytes of one's own, whatever they are. -/
def Bytes (w : World) (base : Nat) (A : Option Addr) (n c : Nat) : Prop := ∃ bs : List Int, bs.length = n ∧ OwnB w base A c bs
theorem Bytes.at {w : World} {base : Nat} {A : Option Addr} {n c j : Nat} (h : Bytes w base A n c) (hj : j < n) :
    ∃ g x, A = some ⟨g, 0, none⟩ ∧ base ≤ g ∧ g < w.heap.size ∧ w.cell? ⟨g, j, none⟩ = some (.int .u8 x) ∧ w.frozen? ⟨g, j, none⟩ = false ∧ ∀ y, Bytes (w.setCell ⟨g, j, none⟩ (.int .u8 y)) base A n c := by
  obtain ⟨bs, hl, ho⟩ := h
  obtain ⟨x, hx⟩ : ∃ x, bs[j]? = some x := ⟨_, List.getElem?_eq_getElem (by omega)⟩
  obtain ⟨g, h1, h2, h3, h4, h5, h6⟩ := bump ho hx
  exact ⟨g, x, h1, h2, h3, h4, h5, fun y => ⟨bs.set j y, by rw [List.length_set]; exact hl, h6 y⟩⟩
theorem Bytes.under {w w' : World} {base : Nat} {A : Option Addr} {n c : Nat} (h : Bytes w base A n c) (hb : Below w.heap.size w w') : Bytes w' base A n c := by
  obtain ⟨bs, hl, ho⟩ := h
  exact ⟨bs, hl, OwnI.under ho hb⟩
/-- Two rows of one datagram each, made for the comparison: in the one order and in the other. -/
theorem same_lit (p1 p2 : ME) (he : p1.1 = p2.1) (w : World) (h1 : ReadI w .u8 p1.2.1 p1.1.bs) (h2 : ReadI w .u8 p2.2.1 p2.1.bs) (hl : p1.1.bs.length ≤ 1000000) :
    Calls Try.prog 20 #[.slice (some ⟨w.heap.size, 0, none⟩) 1 1, .slice (some ⟨w.heap.size + 1, 0, none⟩) 1 1] ((w.alloc (.cells (gcell p1).toArray 32)).alloc (.cells (gcell p2).toArray 32)).drew fun e w' => e = .returned (.bool true) ∧ Below w.heap.size w w' := by
  have hb := Below.refl w.heap.size w
  have r1 : GRead (w.alloc (.cells (gcell p1).toArray 32)) (some ⟨w.heap.size, 0, none⟩) [p1] := gread_lit (w := w) (by simp) (by intro q hq; rw [List.mem_singleton.1 hq]; exact h1)
  have r2 : GRead ((w.alloc (.cells (gcell p1).toArray 32)).alloc (.cells (gcell p2).toArray 32)) (some ⟨(w.alloc (.cells (gcell p1).toArray 32)).heap.size, 0, none⟩) [p2] := gread_lit (by simp) (by intro q hq; rw [List.mem_singleton.1 hq]; exact h2.under (below_alloc (Below.refl _ _) _))
  have := gsame_any _ _ 1 1 1 1 [p1] [p2] _ ((r1.under (below_alloc (Below.refl _ _) _)).under (below_drew (Below.refl _ _))) (r2.under (below_drew (Below.refl _ _))) rfl rfl (by simp [gdat, he]) (by simp) (by intro q hq; rw [List.mem_singleton.1 hq]; exact hl)
  rw [show (w.alloc (.cells (gcell p1).toArray 32)).heap.size = w.heap.size + 1 by simp] at this
  exact this.mono (fun e w' h => ⟨h.1, (below_drew (below_alloc (below_alloc hb _) _)).trans (h.2.mono (by simp; omega))⟩)
theorem same_lit2 (p1 p2 : ME) (he : p1.1 = p2.1) (w : World) (h1 : ReadI w .u8 p1.2.1 p1.1.bs) (h2 : ReadI w .u8 p2.2.1 p2.1.bs) (hl : p1.1.bs.length ≤ 1000000) :
    Calls Try.prog 20 #[.slice (some ⟨w.heap.size + 1, 0, none⟩) 1 1, .slice (some ⟨w.heap.size, 0, none⟩) 1 1] ((w.alloc (.cells (gcell p2).toArray 32)).alloc (.cells (gcell p1).toArray 32)).drew fun e w' => e = .returned (.bool true) ∧ Below w.heap.size w w' := by
  have hb := Below.refl w.heap.size w
  have r1 : GRead (w.alloc (.cells (gcell p2).toArray 32)) (some ⟨w.heap.size, 0, none⟩) [p2] := gread_lit (w := w) (by simp) (by intro q hq; rw [List.mem_singleton.1 hq]; exact h2)
  have r2 : GRead ((w.alloc (.cells (gcell p2).toArray 32)).alloc (.cells (gcell p1).toArray 32)) (some ⟨(w.alloc (.cells (gcell p2).toArray 32)).heap.size, 0, none⟩) [p1] := gread_lit (by simp) (by intro q hq; rw [List.mem_singleton.1 hq]; exact h1.under (below_alloc (Below.refl _ _) _))
  have := gsame_any _ _ 1 1 1 1 [p1] [p2] _ (r2.under (below_drew (Below.refl _ _))) ((r1.under (below_alloc (Below.refl _ _) _)).under (below_drew (Below.refl _ _))) rfl rfl (by simp [gdat, he]) (by simp) (by intro q hq; rw [List.mem_singleton.1 hq]; exact hl)
  rw [show (w.alloc (.cells (gcell p2).toArray 32)).heap.size = w.heap.size + 1 by simp] at this
  exact this.mono (fun e w' h => ⟨h.1, (below_drew (below_alloc (below_alloc hb _) _)).trans (h.2.mono (by simp; omega))⟩)
set_option maxHeartbeats 4000000 in
set_option maxRecDepth 100000 in
theorem looks_any (B gr : Nat) (now put : Int) (A : Option Addr) (n c : Nat) (at_ : Int) (F : List MD) (S T : Nat → Prop) (w : World) (h : RoadF B gr now put F S w) (hI : FInv now put F) (hF : RefF F T A c w) (hn : n = F.length) (hl : n ≤ 4000) :
    Calls Try.prog 25 #[.pointer (some ⟨gr, 0, none⟩), refV now put A n c, .int .i64 at_] w fun e w' => e = .returned (.bool true) ∧ Below w.heap.size w w' := by
  obtain ⟨w1, hw1⟩ : ∃ w1, w1 = w.alloc (.cells #[.int .i64 now, .int .i64 put, .slice A n c] 48) := ⟨_, rfl⟩
  have hb1 : Below w.heap.size w w1 := by rw [hw1]; exact below_alloc (Below.refl _ _) _
  have hz1 : w1.heap.size = w.heap.size + 1 := by rw [hw1]; simp
  have x4 : Blk w1 w.heap.size 48 #[.int .i64 now, .int .i64 put, .slice A n c] := by rw [hw1]; exact Blk.new _ _ _
  have HI := Lib.hid hI
  have HR1 := Lib.hid (h.under hb1)
  have HF1 := Lib.hid (hF.under hb1)
  have HN := Lib.hid hn
  have HW := Lib.hid hw1
  have HB1 := Lib.hid hb1
  have HX4 := Lib.hid x4
  clear h hI hF hn hw1 hb1 x4
  go_enter Try.func25, Try.ntmps25
  go_upto_region 1 with (fail)
  rw [← HW.out]
  have HCN := Lib.hid (fun (W : World) (hb : Below w1.heap.size w1 W) => Fcount B gr now put F S W (HR1.out.under hb) HI.out)
  have lw : w.heap.size < w1.heap.size := by omega
  go_cut [7, 8] from 13 to 18 (fun _ okv wx => okv = .bool (decide (0 ≤ at_) && decide (at_ < (n : Int))) ∧ Below w1.heap.size w1 wx)
  case first =>
    by_cases h0 : at_ < 0 ∨ (F.length : Int) ≤ at_
    · have hd : (decide (0 ≤ at_) && decide (at_ < (n : Int))) = false := by
        rw [HN.out]
        simp
        omega
      have HD := Lib.hid hd
      have HA := Lib.hid (Fat_bad B gr now put F S at_ w1 HR1.out HI.out h0)
      clear h0 hd
      go_upto_region 2 with (go_at_call 26; refine HA.out.mono ?_; rintro e w5 ⟨rfl, hb5⟩; have HB5 := Lib.hid hb5; have lz5 := hb5.size; clear hb5)
      go_meet
      case rel => exact ⟨by rw [HD.out], below_alloc HB5.out _⟩
    · obtain ⟨k, rfl⟩ : ∃ k : Nat, at_ = k := ⟨at_.toNat, by omega⟩
      have hd : (decide (0 ≤ (k : Int)) && decide ((k : Int) < (n : Int))) = true := by
        rw [HN.out]
        simp
        omega
      have HD := Lib.hid hd
      obtain ⟨q, hq⟩ : ∃ q, F[k]? = some q := ⟨_, List.getElem?_eq_getElem (by omega)⟩
      have HA := Lib.hid (Fat_ok B gr now put F S k q w1 HR1.out HI.out hq)
      clear h0 hd
      go_upto_region 2 with (go_at_call 26; refine HA.out.mono ?_; rintro e w5 ⟨A5, c5, rfl, ho5, hb5⟩; clear ho5; have HB5 := Lib.hid hb5; have lz5 := hb5.size; clear hb5)
      go_meet
      case rel => exact ⟨by rw [HD.out], below_alloc HB5.out _⟩
  case rest =>
    obtain ⟨hok, hbc⟩ := hcut
    subst hok
    have HBC := Lib.hid hbc
    have lzc := hbc.size
    have lwc : w.heap.size < wc.heap.size := by omega
    have c2 : wc.cell? ⟨w.heap.size, 2, none⟩ = some (.slice A n c) := (HX4.out.under hbc).cell 2
    have HC := Lib.hid (fun m => ((HCN.out (wc.drewN m) (hbc.trans ((below_drewN (Below.refl _ _) _).mono hbc.size))).mono (fun e w' h => (⟨by rw [HN.out]; exact h.1, 0, by rw [← h.2]; rfl⟩ : e = .returned (.int .i64 (n : Int)) ∧ ∃ k, w' = (wc.drewN m).drewN k))))
    have t9 : ((n : Int) != (n : Int)) = false := by simp
    clear hbc
    go_upto_region 2 with (fail)
    go_cut [8, 37] from 19 to 36 (fun _ v wx => v = .bool false ∧ Below w1.heap.size w1 wx)
    case first =>
      rcases Int.lt_or_le at_ 0 with h0 | h0
      · have t1 : decide (0 ≤ at_) = false := decide_eq_false (by omega)
        rw [show (decide (0 ≤ at_) && decide (at_ < (n : Int))) = false by simp; omega]
        go_quiet ((go_at_call 14; exact Calls.quiet_of (HC.out _)))
        go_wp2_with fail
        go_meet
        case rel => exact ⟨rfl, HBC.out.trans ((below_drewN (Below.refl _ _) _).mono HBC.out.size)⟩
      · have t1 : decide (0 ≤ at_) = true := decide_eq_true h0
        rcases Int.lt_or_le at_ (n : Int) with h1 | h1
        · have t2 : decide (at_ < (n : Int)) = true := decide_eq_true h1
          rw [show (decide (0 ≤ at_) && decide (at_ < (n : Int))) = true by simp; omega]
          go_quiet ((go_at_call 14; exact Calls.quiet_of (HC.out _)))
          go_wp2_with fail
          go_meet
          case rel => exact ⟨rfl, HBC.out.trans ((below_drewN (Below.refl _ _) _).mono HBC.out.size)⟩
        · have t2 : decide (at_ < (n : Int)) = false := decide_eq_false (by omega)
          rw [show (decide (0 ≤ at_) && decide (at_ < (n : Int))) = false by simp; omega]
          go_quiet ((go_at_call 14; exact Calls.quiet_of (HC.out _)))
          go_wp2_with fail
          go_meet
          case rel => exact ⟨rfl, HBC.out.trans ((below_drewN (Below.refl _ _) _).mono HBC.out.size)⟩
    case rest =>
      obtain ⟨hv, hbd⟩ := hcut
      subst hv
      have HBD := Lib.hid hbd
      have lzd := hbd.size
      have d2 := (HX4.out.under hbd).cell 2
      simp only [List.getElem?_toArray, List.getElem?_cons_zero, List.getElem?_cons_succ] at d2
      have lwd : w.heap.size < wc.heap.size := by omega
      clear hbd HBC lzc lwc c2 HC
      go_wp2_with fail
      go_loopw [41] (fun i wr => ∃ k : Nat, k ≤ n ∧ i = .int .i64 k ∧ Below w1.heap.size w1 wr) (fun i _ => n - (intOf i).toNat)
      case atStart => exact ⟨0, by omega, rfl, HBD.out⟩
      case round =>
        obtain ⟨k, hk, rfl, hb⟩ := hrel
        obtain ⟨wo, rfl⟩ : ∃ x : World, x = wr := ⟨_, rfl⟩
        have HBR := Lib.hid hb
        have lzr := hb.size
        have lwr : w.heap.size < wo.heap.size := by omega
        clear hb
        by_cases hlt : k < n
        · have i1 : (k : Int) < (n : Int) := by omega
          obtain ⟨q, hq⟩ : ∃ q, F[k]? = some q := ⟨_, List.getElem?_eq_getElem (by have := HN.out; omega)⟩
          have HA := Lib.hid (Fat_ok B gr now put F S k q wo (HR1.out.under HBR.out) HI.out hq)
          obtain ⟨G, g1, g2, g3, g4⟩ := HF1.out.out
          obtain ⟨qe, hqe⟩ : ∃ qe, G[k]? = some qe := ⟨_, List.getElem?_eq_getElem (by have := congrArg List.length g1; simp at this; have := getElem?_lt hq; omega)⟩
          obtain rfl : qe.1 = q := by rw [← g1, List.getElem?_map, hqe] at hq; exact Option.some.inj hq
          obtain ⟨b, o, rfl, q0, q1, q2, q3, q4⟩ := rmail_cells (g2.under HBR.out) hqe
          have lb := World.block_lt_of_cell? wo _ q0
          simp only at lb
          have HRB := Lib.hid ((g3 qe (List.mem_of_getElem? hqe)).under HBR.out)
          have HSM := Lib.hid (HI.out.small qe.1 (List.mem_of_getElem? hq))
          have HQ2 := Lib.hid q2
          have HQ3 := Lib.hid q3
          have HQ4 := Lib.hid q4
          have HX4R := Lib.hid (HX4.out.under HBR.out)
          clear g1 g2 g3 g4 hqe hq q0 q1 q2 q3 q4
          go_upto_region 8 with (go_at_call 26; refine HA.out.mono ?_; rintro e w5 ⟨A5, c5, rfl, ho5, hb5⟩; have HO5 := Lib.hid ho5; have HB5 := Lib.hid hb5; have lz5 := hb5.size; clear ho5 hb5)
          obtain ⟨w6, hw6⟩ : ∃ w6, w6 = w5.alloc (.cells #[.int .i64 qe.1.addr, .bool qe.1.down, .slice A5 qe.1.bs.length c5] 32) := ⟨_, rfl⟩
          rw [← hw6]
          have hb56 : Below w5.heap.size w5 w6 := by rw [hw6]; exact below_alloc (Below.refl _ _) _
          have hz6 : w6.heap.size = w5.heap.size + 1 := by rw [hw6]; simp
          have x10 : Blk w6 w5.heap.size 32 #[.int .i64 qe.1.addr, .bool qe.1.down, .slice A5 qe.1.bs.length c5] := by rw [hw6]; exact Blk.new _ _ _
          have hbr6 := HB5.out.trans (hb56.mono lz5)
          have l0 : w6.cell? ⟨w5.heap.size, 0, none⟩ = some (.int .i64 qe.1.addr) := x10.cell 0
          have l1 : w6.cell? ⟨w5.heap.size, 1, none⟩ = some (.bool qe.1.down) := x10.cell 1
          have l2 : w6.cell? ⟨w5.heap.size, 2, none⟩ = some (.slice A5 qe.1.bs.length c5) := x10.cell 2
          have b2 : w6.cell? ⟨w.heap.size, 2, none⟩ = some (.slice (some ⟨b, o, none⟩) n c) := (HX4R.out.under hbr6).cell 2
          have m2 : w6.cell? ⟨b, o + k * 5 + 2, none⟩ = some (.int .i64 qe.1.addr) := (hbr6.cell (p := ⟨b, o + k * 5 + 2, none⟩) lb).trans HQ2.out
          have m3 : w6.cell? ⟨b, o + k * 5 + 3, none⟩ = some (.bool qe.1.down) := (hbr6.cell (p := ⟨b, o + k * 5 + 3, none⟩) lb).trans HQ3.out
          have m4 : w6.cell? ⟨b, o + k * 5 + 4, none⟩ = some (.slice qe.2.1 qe.1.bs.length qe.2.2) := (hbr6.cell (p := ⟨b, o + k * 5 + 4, none⟩) lb).trans HQ4.out
          have HX10 := Lib.hid x10
          have HBY := Lib.hid (show Bytes w6 wo.heap.size A5 qe.1.bs.length c5 from ⟨qe.1.bs, rfl, OwnI.under HO5.out hb56⟩)
          have HB6 := Lib.hid (HBR.out.trans (hbr6.mono lzr))
          have ra : ReadI w6 .u8 A5 qe.1.bs := (OwnI.read HO5.out).under hb56
          have rb := HRB.out.under hbr6
          have HS1 := Lib.hid (show Calls Try.prog 20 #[.slice (some ⟨w6.heap.size, 0, none⟩) 1 1, .slice (some ⟨w6.heap.size + 1, 0, none⟩) 1 1] ((w6.alloc (.cells #[.int .i64 qe.1.addr, .bool qe.1.down, .slice A5 qe.1.bs.length c5] 32)).alloc (.cells #[.int .i64 qe.1.addr, .bool qe.1.down, .slice qe.2.1 qe.1.bs.length qe.2.2] 32)).drew (fun e w' => e = .returned (.bool true) ∧ Below w6.heap.size w6 w') from same_lit (qe.1, A5, c5) qe rfl w6 ra rb (by have := HSM.out; simp only; omega))
          have HS2 := Lib.hid (show Calls Try.prog 20 #[.slice (some ⟨w6.heap.size + 1, 0, none⟩) 1 1, .slice (some ⟨w6.heap.size, 0, none⟩) 1 1] ((w6.alloc (.cells #[.int .i64 qe.1.addr, .bool qe.1.down, .slice qe.2.1 qe.1.bs.length qe.2.2] 32)).alloc (.cells #[.int .i64 qe.1.addr, .bool qe.1.down, .slice A5 qe.1.bs.length c5] 32)).drew (fun e w' => e = .returned (.bool true) ∧ Below w6.heap.size w6 w') from same_lit2 (qe.1, A5, c5) qe rfl w6 ra rb (by have := HSM.out; simp only; omega))
          have g1 : w5.heap.size < w6.heap.size := by omega
          have g2 : w.heap.size < w6.heap.size := by omega
          have g3 : b < w6.heap.size := by omega
          have g4 := hbr6.size
          have HZ6 := Lib.hid hz6
          clear hz6
          have HG5 := Lib.hid (show ∀ g, A5 = some ⟨g, 0, none⟩ → g < w5.heap.size from fun g e => (OwnI.lt HO5.out g (by rw [e]; rfl)).2)
          have HB56 := Lib.hid hbr6
          clear x10 hbr6 hb56 hw6 ra rb HA HRB HO5
          go_cut [64] from 50 to 63 (fun v wx => v = .bool false ∧ Below w6.heap.size w6 wx)
          case first =>
            go_region_held3 (fun w' => w'.cell? ⟨w5.heap.size, 0, none⟩ = some (.int .i64 qe.1.addr) ∧ w'.cell? ⟨w5.heap.size, 1, none⟩ = some (.bool qe.1.down) ∧ w'.cell? ⟨w5.heap.size, 2, none⟩ = some (.slice A5 qe.1.bs.length c5) ∧ w'.cell? ⟨w.heap.size, 2, none⟩ = some (.slice (some ⟨b, o, none⟩) n c) ∧ w'.cell? ⟨b, o + k * 5 + 2, none⟩ = some (.int .i64 qe.1.addr) ∧ w'.cell? ⟨b, o + k * 5 + 3, none⟩ = some (.bool qe.1.down) ∧ w'.cell? ⟨b, o + k * 5 + 4, none⟩ = some (.slice qe.2.1 qe.1.bs.length qe.2.2)) (first | with_reducible exact ⟨l0, l1, l2, b2, m2, m3, m4⟩ | with_reducible exact ⟨n0, n1, n2, b3, k2, k3, k4⟩ | go_keep)
              (first
              | (go_at_call 20; with_reducible refine HS1.out.mono ?_; rintro e w7 ⟨rfl, hb7⟩; have n0 : w7.cell? ⟨w5.heap.size, 0, none⟩ = some (.int .i64 qe.1.addr) := (hb7.cell (p := ⟨w5.heap.size, 0, none⟩) g1).trans l0; have n1 : w7.cell? ⟨w5.heap.size, 1, none⟩ = some (.bool qe.1.down) := (hb7.cell (p := ⟨w5.heap.size, 1, none⟩) g1).trans l1; have n2 : w7.cell? ⟨w5.heap.size, 2, none⟩ = some (.slice A5 qe.1.bs.length c5) := (hb7.cell (p := ⟨w5.heap.size, 2, none⟩) g1).trans l2; have b3 : w7.cell? ⟨w.heap.size, 2, none⟩ = some (.slice (some ⟨b, o, none⟩) n c) := (hb7.cell (p := ⟨w.heap.size, 2, none⟩) g2).trans b2; have k2 : w7.cell? ⟨b, o + k * 5 + 2, none⟩ = some (.int .i64 qe.1.addr) := (hb7.cell (p := ⟨b, o + k * 5 + 2, none⟩) g3).trans m2; have k3 : w7.cell? ⟨b, o + k * 5 + 3, none⟩ = some (.bool qe.1.down) := (hb7.cell (p := ⟨b, o + k * 5 + 3, none⟩) g3).trans m3; have k4 : w7.cell? ⟨b, o + k * 5 + 4, none⟩ = some (.slice qe.2.1 qe.1.bs.length qe.2.2) := (hb7.cell (p := ⟨b, o + k * 5 + 4, none⟩) g3).trans m4; have HB7 := Lib.hid hb7; clear hb7)
              | (go_at_call 20; with_reducible refine HS2.out.mono ?_; rintro e w7 ⟨rfl, hb7⟩; have n0 : w7.cell? ⟨w5.heap.size, 0, none⟩ = some (.int .i64 qe.1.addr) := (hb7.cell (p := ⟨w5.heap.size, 0, none⟩) g1).trans l0; have n1 : w7.cell? ⟨w5.heap.size, 1, none⟩ = some (.bool qe.1.down) := (hb7.cell (p := ⟨w5.heap.size, 1, none⟩) g1).trans l1; have n2 : w7.cell? ⟨w5.heap.size, 2, none⟩ = some (.slice A5 qe.1.bs.length c5) := (hb7.cell (p := ⟨w5.heap.size, 2, none⟩) g1).trans l2; have b3 : w7.cell? ⟨w.heap.size, 2, none⟩ = some (.slice (some ⟨b, o, none⟩) n c) := (hb7.cell (p := ⟨w.heap.size, 2, none⟩) g2).trans b2; have k2 : w7.cell? ⟨b, o + k * 5 + 2, none⟩ = some (.int .i64 qe.1.addr) := (hb7.cell (p := ⟨b, o + k * 5 + 2, none⟩) g3).trans m2; have k3 : w7.cell? ⟨b, o + k * 5 + 3, none⟩ = some (.bool qe.1.down) := (hb7.cell (p := ⟨b, o + k * 5 + 3, none⟩) g3).trans m3; have k4 : w7.cell? ⟨b, o + k * 5 + 4, none⟩ = some (.slice qe.2.1 qe.1.bs.length qe.2.2) := (hb7.cell (p := ⟨b, o + k * 5 + 4, none⟩) g3).trans m4; have HB7 := Lib.hid hb7; clear hb7))
            all_goals
              go_wp2_with fail
              go_meet
              case rel => exact ⟨rfl, HB7.out⟩
          case rest =>
            obtain ⟨hv, hb7⟩ := hcut
            subst hv
            have HB7 := Lib.hid hb7
            have HX10 := Lib.hid (HX10.out.under hb7)
            have HBY := Lib.hid (HBY.out.under hb7)
            have HB67 := Lib.hid (HB56.out.trans (hb7.mono HB56.out.size))
            have n2 : wc.cell? ⟨w5.heap.size, 2, none⟩ = some (.slice A5 qe.1.bs.length c5) := HX10.out.cell 2
            have hbs := HSM.out
            have lz7 := hb7.size
            have lb7 : w5.heap.size < wc.heap.size := by omega
            clear hb7 l0 l1 l2 b2 m2 m3 m4 HS1 HS2 HQ2 HQ3 HQ4 g1 g2 g3 g4
            go_wp2_with fail
            go_loopw [68] (fun i wx => ∃ j : Nat, j ≤ qe.1.bs.length ∧ i = .int .i64 j ∧ Bytes wx wo.heap.size A5 qe.1.bs.length c5 ∧ Blk wx w5.heap.size 32 #[.int .i64 qe.1.addr, .bool qe.1.down, .slice A5 qe.1.bs.length c5] ∧ Below wo.heap.size wo wx) (fun i _ => qe.1.bs.length - (intOf i).toNat)
            case atStart => exact ⟨0, Nat.zero_le _, rfl, HBY.out, HX10.out, HB67.out⟩
            case round =>
              obtain ⟨j, hj, rfl, hby, hx, hbw⟩ := hrel
              have lwx := hx.lt
              have lbw := hbw.size
              by_cases hjl : j < qe.1.bs.length
              · obtain ⟨g, x, rfl, h1, h2, h3, h4, h5⟩ := hby.at hjl
                have hgw := HG5.out g rfl
                have e2 : wr.cell? ⟨w5.heap.size, 2, none⟩ = some (.slice (some ⟨g, 0, none⟩) qe.1.bs.length c5) := hx.cell 2
                have i1 : (j : Int) < (qe.1.bs.length : Int) := by omega
                have HR := Lib.hid (fun y => (⟨h5 y, hx.far (p := ⟨g, j, none⟩) (by simp only; omega) _, hbw.setCell (p := ⟨g, j, none⟩) h1 _⟩ : Bytes (wr.setCell ⟨g, j, none⟩ (.int .u8 y)) wo.heap.size (some ⟨g, 0, none⟩) qe.1.bs.length c5 ∧ Blk (wr.setCell ⟨g, j, none⟩ (.int .u8 y)) w5.heap.size 32 #[.int .i64 qe.1.addr, .bool qe.1.down, .slice (some ⟨g, 0, none⟩) qe.1.bs.length c5] ∧ Below wo.heap.size wo (wr.setCell ⟨g, j, none⟩ (.int .u8 y))))
                clear hby hx hbw h5
                go_wp2_with fail
                go_roundw
                case rel => exact ⟨j + 1, by omega, by go_num, HR.out _⟩
                case measure => simp [intOf]; omega
              · have HW := Lib.hid (HBR.out.trans (hbw.mono HBR.out.size))
                have i1 : ¬ ((j : Int) < (qe.1.bs.length : Int)) := by omega
                clear hby hx hbw
                go_wp2_with fail
                go_roundw
                case rel => exact ⟨k + 1, by omega, by go_num, HW.out⟩
                case measure => simp [intOf]; omega
        · have hkn : k = n := by omega
          have i1 : ¬ ((k : Int) < (n : Int)) := by omega
          clear hkn
          go_wp2_with fail
          go_ret
          exact ⟨rfl, HB1.out.trans (HBR.out.mono HB1.out.size)⟩
end Go.Proofs.Ytkodmoeohffjhaa
