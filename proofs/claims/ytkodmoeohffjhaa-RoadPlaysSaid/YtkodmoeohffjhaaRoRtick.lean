/- The document's Tick walked. -/
import Derived.Test.YtkodmoeohffjhaaRoRlate
namespace Go.Proofs.Ytkodmoeohffjhaa
open Go.RowKit Go.Proofs.Ytkodmoeohffjhaa.Hp
set_option linter.unusedVariables false
set_option linter.unusedSimpArgs false

/-- How far what is due has been taken. -/
structure RTk (z : Int) (G : List ME) (w3 : World) (k : Nat) (v : Value) (wr : World) : Prop where
  row : OwnR wr w3.heap.size 32 3 v k ((G.take k).flatMap gcell)
  below : Below w3.heap.size w3 wr
  due : ∀ q ∈ G.take k, dueP z q.1 = true
theorem RTk.next {z : Int} {G : List ME} {w3 wr w5 : World} {k : Nat} {v v' : Value} {q : ME} {o : Obj} (h : RTk z G w3 k v wr) (hq : G[k]? = some q) (hd : q.1.due ≤ z)
    (ha : AppedR (wr.alloc o) w5 w3.heap.size 32 3 v v' (k + 1) ((G.take k).flatMap gcell ++ gcell q)) : RTk z G w3 (k + 1) v' w5 := by
  have e : G.take (k + 1) = G.take k ++ [q] := by
    have hk := getElem?_lt hq
    rw [List.getElem?_eq_getElem hk] at hq
    rw [List.take_succ_eq_append_getElem hk, Option.some.inj hq]
  have hk : Keeps (fun b => v.ownBlock = some b) (wr.alloc o) w5 := Keeps.grown ha.only (fun g hg => hg)
  have hb := below_alloc h.below o
  refine ⟨by have := ha.own; rw [e]; simpa using this, Keeps.below hb hk hb.size (fun b hb' => ?_), fun p hp => ?_⟩
  · exact (OwnR.blocks h.row b hb').1
  · rw [e] at hp
    rcases List.mem_append.1 hp with hp | hp
    · exact h.due p hp
    · rw [List.mem_singleton.1 hp]; simp [dueP]; exact hd
theorem RTk.start {z : Int} {G : List ME} {w3 : World} {n : Nat} (hn : n = w3.heap.size) : RTk z G w3 0 (.slice (some ⟨n, 0, none⟩) 0 0) (w3.alloc (.cells #[] 32)) := by
  subst hn
  refine ⟨?_, below_alloc (Below.refl _ _) _, by simp⟩
  have := World.ownsRow_lit (e := 32) (size := 3) (base := w3.heap.size) w3 (#[] : Array Value) 0 (Nat.le_refl _) (by simp [maxLen]) (by simp)
  simpa using this
theorem RTk.drewN {z : Int} {G : List ME} {w3 wr : World} {k n : Nat} {v : Value} (h : RTk z G w3 k v wr) : RTk z G w3 k v (wr.drewN n) :=
  ⟨h.row.under (below_drewN (Below.refl _ _) _), h.below.trans ((below_drewN (Below.refl _ _) _).mono h.below.size), h.due⟩
/-- All that is due has been taken. -/
structure RTd (z : Int) (G : List ME) (w3 : World) (k : Nat) (v : Value) (wr : World) : Prop where
  taken : RTk z G w3 k v wr
  stop : ∀ q, G[k]? = some q → dueP z q.1 = false
theorem RTd.parts {z : Int} {G : List ME} {w3 wr : World} {k : Nat} {v : Value} (h : RTd z G w3 k v wr) : (G.take k).map Prod.fst = (G.map Prod.fst).takeWhile (dueP z) ∧ (G.drop k).map Prod.fst = (G.map Prod.fst).dropWhile (dueP z) := by
  have hd := h.taken.due
  have hs := h.stop
  clear h
  induction G generalizing k with
  | nil => simp
  | cons p G ih =>
    cases k with
    | zero =>
      have := hs p rfl
      simp [this]
    | succ k =>
      have h0 := hd p (by simp)
      obtain ⟨i1, i2⟩ := ih (k := k) (fun q hq => hd q (by simp [hq])) (fun q hq => hs q (by simpa using hq))
      simp [h0, i1, i2]
/-- What the document's Tick answers. -/
def RTicks (now put : Int) (F : List MD) (T : Nat → Prop) (w : World) (e : Ending) (w' : World) : Prop :=
  ∃ (O : List ME) (A : Option Addr) (c : Nat) (A2 : Option Addr) (c2 : Nat), O.map Prod.fst = F.takeWhile (dueP now) ∧ e = .returned (.tuple #[.slice A O.length c, refV now put A2 (F.dropWhile (dueP now)).length c2]) ∧ GRead w' A O ∧
    (∀ q ∈ O, ∀ b, q.blk = some b → T b) ∧ (∀ b o x, A = some ⟨b, o, x⟩ → w.heap.size ≤ b) ∧ RefF (F.dropWhile (dueP now)) (Plus T w w') A2 c2 w' ∧ Below w.heap.size w w'
theorem OwnR.slice {w : World} {base : Nat} {e : TypeId} {size n : Nat} {v : Value} {xs : List Value} (h : OwnR w base e size v n xs) : ∃ A c, v = .slice A n c ∧ (∀ b o x, A = some ⟨b, o, x⟩ → base ≤ b) := by
  obtain ⟨A, c, rfl, _, _⟩ := OwnR.form h
  exact ⟨A, c, rfl, fun b o x e => (OwnR.blocks h b (ownBlock_some.2 ⟨o, x, e⟩)).1⟩
/-- What is left behind the row's start. -/
theorem tick_left {T : Nat → Prop} {w3 wc w5 : World} {G : List ME} {k n : Nat} {v' : Value} (hb : Below w3.heap.size w3 wc) (hT : ∀ b, T b → b < w3.heap.size) (hG : ∀ q ∈ G, ReadI w3 .u8 q.2.1 q.1.bs) (hT2 : ∀ q ∈ G, ∀ b, q.blk = some b → T b) (hgl : G.length = n) (hk : k ≤ n)
    (ha : AppedR (wc.alloc (.cells #[] 80)) w5 wc.heap.size 80 5 (.slice (some ⟨wc.heap.size, 0, none⟩) 0 0) v' (n - k) ((G.drop k).flatMap mcell)) : RRow T wc v' (G.drop k) w5 := by
  have hs := RRow.start (T := T) (w0 := wc) (fun b h => by have := hT b h; have := hb.size; omega) (Below.refl _ wc) wc.heap.size rfl
  have := hs.many (Y := G.drop k) (fun q hq => ⟨(((hG q (List.mem_of_mem_drop hq)).under hb).under (below_alloc (Below.refl _ _) _)), hT2 q (List.mem_of_mem_drop hq)⟩) (by rw [List.length_drop, hgl]; simp) ha
  simpa using this
theorem tick_fin {T : Nat → Prop} {w w3 wc w5 w' : World} {A A2 : Option Addr} {c c2 k m : Nat} {now put : Int} {F : List MD} {G : List ME} (hg1 : G.map Prod.fst = F) (hd : RTd now G w3 k (.slice A k c) wc) (hA : ∀ b o x, A = some ⟨b, o, x⟩ → w3.heap.size ≤ b) (hT : ∀ b, T b → b < w.heap.size) (hb3 : Below w.heap.size w w3) (hG : ∀ q ∈ G, ReadI w3 .u8 q.2.1 q.1.bs) (hT2 : ∀ q ∈ G, ∀ b, q.blk = some b → T b) (hgl : k ≤ G.length) (hm : m = G.length - k)
    (hr : RRow T wc (.slice A2 m c2) (G.drop k) w5) (hk : Keeps (fun b => w.heap.size ≤ b ∧ b < w3.heap.size) w5 w') : RTicks now put F T w (.returned (.tuple #[.slice A k c, refV now put A2 m c2])) w' := by
  obtain ⟨p1, p2⟩ := hd.parts
  rw [hg1] at p1 p2
  have hl1 : (G.take k).length = k := by rw [List.length_take, Nat.min_eq_left hgl]
  have hl2 : m = (F.dropWhile (dueP now)).length := by rw [← p2]; simp [hm]
  have hz3 := hb3.size
  have hbc := hb3.trans (hd.taken.below.mono hz3)
  have hzc := hd.taken.below.size
  obtain ⟨f1, f2⟩ := radd_fin hr p2 hl2 hT hbc (hk.mono (fun b e => ⟨e.1, by omega⟩))
  refine ⟨G.take k, A, c, A2, c2, p1, by rw [hl1, hl2], ?_, fun q hq b hb => hT2 q (List.mem_of_mem_take hq) b hb, fun b o x e => by have := hA b o x e; omega, f1, f2⟩
  have hg : GRead w5 A (G.take k) := by
    have hrow := hd.taken.row
    refine GRead.under (w := wc) ⟨OwnR.read hrow, fun q hq => (hG q (List.mem_of_mem_take hq)).under hd.taken.below⟩ hr.below
  exact hg.keeps hk (fun b o e h => by have := hA b o none e; omega) (fun q hq b hb h => by have := hT b (hT2 q (List.mem_of_mem_take hq) b hb); omega)
set_option maxHeartbeats 4000000 in
set_option maxRecDepth 100000 in
theorem rtick_any (now put : Int) (A : Option Addr) (n c : Nat) (F : List MD) (T : Nat → Prop) (w : World) (hF : RefF F T A c w) (hn : n = F.length) (hl : n ≤ 4000) (hp : 0 ≤ now ∧ now < 1000000) :
    Calls Try.prog 19 #[refV now put A n c] w (RTicks (now + 1) put F T w) := by
  obtain ⟨w2, hw2⟩ : ∃ w2, w2 = (w.alloc (.cells #[.int .i64 now, .int .i64 put, .slice A n c] 48)).alloc (.cells #[.int .i64 0, .int .i64 0, .slice none 0 0] 48) := ⟨_, rfl⟩
  obtain ⟨hb2, hz2, x2, x7⟩ := two_blk2 hw2
  have HTL := Lib.hid hF.lt
  have HN := Lib.hid hn
  have HW := Lib.hid hw2
  obtain ⟨p1, p2⟩ := hp
  have z0 : w2.cell? ⟨w.heap.size, 0, none⟩ = some (.int .i64 now) := x2.cell 0
  have zf0 : w2.frozen? ⟨w.heap.size, 0, none⟩ = false := x2.frozen 0
  have HF0 := Lib.hid hF
  have HB2 := Lib.hid hb2
  have HX2 := Lib.hid x2
  have HX7 := Lib.hid x7
  clear hF hn hw2 hb2 x2 x7
  go_enter Try.func19, Try.ntmps19
  go_upto_region 1 with (fail)
  rw [← HW.out]
  go_upto_block 0 with (fail)
  obtain ⟨w3, hw3⟩ : ∃ w3, w3 = w2.setCell ⟨w.heap.size, 0, none⟩ (.int .i64 (now + 1)) := ⟨_, rfl⟩
  rw [← hw3]
  have hz3 : w3.heap.size = w.heap.size + 1 + 1 := by rw [hw3]; simpa using hz2
  have hb3 : Below w.heap.size w w3 := by rw [hw3]; exact HB2.out.setCell (Nat.le_refl _) _
  have x3 : Blk w3 w.heap.size 48 #[.int .i64 (now + 1), .int .i64 put, .slice A n c] := by rw [hw3]; exact HX2.out.s3_0 _
  have x73 : Blk w3 (w.heap.size + 1) 48 #[.int .i64 0, .int .i64 0, .slice none 0 0] := by rw [hw3]; exact HX7.out.far (p := ⟨w.heap.size, 0, none⟩) (by simp only; omega) _
  have HX3 := Lib.hid x3
  have HX73 := Lib.hid x73
  have HB3 := Lib.hid hb3
  have HF3 := Lib.hid (HF0.out.under hb3)
  have HST := Lib.hid (fun G => RTk.start (z := now + 1) (G := G) hz3.symm)
  clear x3 x73 hb3 hw3 z0 zf0 HX2 HX7 HB2 HW
  obtain ⟨G, g1, g2, g3, g4⟩ := HF3.out.out
  have hgl : G.length = n := by rw [HN.out, ← g1]; simp
  have HG1 := Lib.hid g1
  have HG2 := Lib.hid g2
  have HGL := Lib.hid hgl
  have HG3 := Lib.hid g3
  have HG4 := Lib.hid g4
  clear g1 g2 g3 g4 hgl
  go_cut [4, 5] from 11 to 37 (fun v i wx => ∃ k : Nat, k ≤ n ∧ i = .int .i64 k ∧ RTd (now + 1) G w3 k v wx)
  case first =>
    go_wp2_with fail
    go_loopw [4, 5] (fun v i wr => ∃ k : Nat, k ≤ n ∧ i = .int .i64 k ∧ RTk (now + 1) G w3 k v wr) (fun _ i _ => n - (intOf i).toNat)
    case atStart => exact ⟨0, by omega, rfl, HST.out G⟩
    case round =>
      obtain ⟨k, hk, rfl, hR⟩ := hrel
      obtain ⟨vv, rfl⟩ : ∃ o : Value, o = u4 := ⟨_, rfl⟩
      have x3 := HX3.out.under hR.below
      have c0 : wr.cell? ⟨w.heap.size, 0, none⟩ = some (.int .i64 (now + 1)) := x3.cell 0
      have c2 : wr.cell? ⟨w.heap.size, 2, none⟩ = some (.slice A n c) := x3.cell 2
      have lz : w3.heap.size ≤ wr.heap.size := hR.below.size
      have lw : w.heap.size < wr.heap.size := by omega
      clear x3
      by_cases hlt : k < n
      · obtain ⟨q, hq⟩ : ∃ q, G[k]? = some q := ⟨_, List.getElem?_eq_getElem (by rw [HGL.out]; exact hlt)⟩
        obtain ⟨b, o, rfl, q0, q1, q2, q3, q4⟩ := rmail_cells (HG2.out.under hR.below) hq
        have lb := World.block_lt_of_cell? wr _ q0
        simp only at lb
        have i1 : (k : Int) < (n : Int) := by omega
        have t1 : decide ((k : Int) < (n : Int)) = true := decide_eq_true i1
        have HR := Lib.hid hR
        have HQ := Lib.hid hq
        clear hR hq
        by_cases hd : q.1.due ≤ now + 1
        · have t2 : decide (q.1.due ≤ now + 1) = true := decide_eq_true hd
          go_upto_region 4 with (fail)
          go_quiet (fail)
          go_wp2_with (first
            | (at_builtin; refine wpList_append_cells _ rfl (.tmp 27) (.tmp 34) 28 32 3 40 rfl Try.underlying28 (by kernel_rfl) (by omega) (by omega) w3.heap.size vv k ((G.take k).flatMap gcell) (by rfl) (HR.out.drewN.row.under (below_alloc (Below.refl _ _) _)) (some ⟨wr.heap.size, 0, none⟩) 1 1 (gcell q) (by rfl) (Blk.read (Blk.new (wr.drewN nq) _ _)) rfl (by intro u hu; simp [gcell] at hu; rcases hu with rfl | rfl | rfl <;> rfl) (k + 1) rfl _ rfl (by omega) (by simp; omega) ?_; intro A6 c6 w6 hap; have HR6 := Lib.hid (HR.out.drewN.next HQ.out hd hap); clear hap))
          go_roundw
          case rel => exact ⟨k + 1, by omega, by go_num, HR6.out⟩
          case measure => simp [intOf]; omega
        · have t2 : decide (q.1.due ≤ now + 1) = false := decide_eq_false hd
          have HS := Lib.hid (show ∀ p, G[k]? = some p → dueP (now + 1) p.1 = false from fun p hp => by
            have : q = p := by rw [HQ.out] at hp; exact Option.some.inj hp
            subst this
            simp [dueP]; omega)
          go_upto_region 4 with (fail)
          go_quiet (fail)
          go_wp2_with fail
          go_meet
          case rel => exact ⟨k, by omega, rfl, HR.out.drewN, HS.out⟩
      · have HR := Lib.hid hR
        have hkn : k = n := by omega
        have t1 : decide ((k : Int) < (n : Int)) = false := decide_eq_false (by omega)
        have HS := Lib.hid (show ∀ p, G[k]? = some p → dueP (now + 1) p.1 = false from fun p hp => by
          have := getElem?_lt hp
          rw [HGL.out] at this
          omega)
        clear hR hkn
        go_upto_region 4 with (fail)
        go_quiet (fail)
        go_wp2_with fail
        go_meet
        case rel => exact ⟨k, by omega, rfl, HR.out.drewN, HS.out⟩
  case rest =>
    obtain ⟨k, hkn, hu5, hD⟩ := hcut
    obtain ⟨Ao, co, hu4, hAo⟩ := OwnR.slice hD.taken.row
    subst hu4 hu5
    have HT3 := Lib.hid HF3.out.lt
    have HD := Lib.hid hD
    have HAO := Lib.hid hAo
    have HKL := Lib.hid (show k ≤ G.length by rw [HGL.out]; exact hkn)
    have HMM := Lib.hid (show n - k = G.length - k by rw [HGL.out])
    have x3 := HX3.out.under hD.taken.below
    have HX3C := Lib.hid x3
    have HX7C := Lib.hid (HX73.out.under hD.taken.below)
    have lz : w3.heap.size ≤ wc.heap.size := hD.taken.below.size
    have lw : w.heap.size + 1 < wc.heap.size := by omega
    have lw0 : w.heap.size < wc.heap.size := by omega
    have c0 : wc.cell? ⟨w.heap.size, 0, none⟩ = some (.int .i64 (now + 1)) := x3.cell 0
    have c1 : wc.cell? ⟨w.heap.size, 1, none⟩ = some (.int .i64 put) := x3.cell 1
    have c2 : wc.cell? ⟨w.heap.size, 2, none⟩ = some (.slice A n c) := x3.cell 2
    have HRW := Lib.hid (RRow.start (T := T) (w0 := wc) (fun b h => by have := HT3.out b h; omega) (Below.refl _ wc) wc.heap.size rfl)
    have HRD := Lib.hid (HG2.out.under hD.taken.below)
    have HL2 := Lib.hid (show ((G.drop k).flatMap mcell).length = (n - k) * 5 by rw [mcell_len, List.length_drop, HGL.out])
    have HI2 := Lib.hid (show n - k ≤ 17179869184 by omega)
    have hnc : n ≤ c := by rw [HN.out]; exact HF0.out.cap
    have hkc : k ≤ c := by omega
    have s1 : 0 ≤ (k : Int) := by omega
    have s2 : (k : Int) ≤ (n : Int) := by omega
    clear x3 hD hAo
    by_cases hcap : c = k
    · subst hcap
      have hn0 : n = c := by omega
      subst hn0
      have HRDX := Lib.hid (show ReadC wc A ((G.drop n).flatMap mcell) from fun hne => absurd (List.eq_nil_of_length_eq_zero (by rw [HL2.out]; omega)) hne)
      have HLX := Lib.hid (show ((G.drop n).flatMap mcell).length = 0 * 5 by rw [HL2.out]; omega)
      have HIX := Lib.hid (show n - n = 0 + 0 by omega)
      go_wp2_with (first
        | (at_builtin; refine wpList_append_cells _ rfl (.tmp 38) (.tmp 42) 46 80 5 56 rfl Try.underlying46 (by kernel_rfl) (by omega) (by omega) wc.heap.size (.slice (some ⟨wc.heap.size, 0, none⟩) 0 0) 0 [] (by rfl) HRW.out.row A 0 0 ((G.drop n).flatMap mcell) (by rfl) (HRDX.out.under (below_alloc (Below.refl _ _) _)) HLX.out (many_one _) (n - n) HIX.out ((G.drop n).flatMap mcell) rfl HI2.out (by simp) ?_; intro A5 c5 w5 hap; have hr5 := tick_left HD.out.taken.below HT3.out HG3.out HG4.out HGL.out (Nat.le_refl _) hap; have x5 := HX3C.out.under hr5.below; have y5 := HX7C.out.under hr5.below; have hz5 := hr5.below.size; have b0 : w5.cell? ⟨w.heap.size, 0, none⟩ = some (.int .i64 (now + 1)) := x5.cell 0; have bf0 : w5.frozen? ⟨w.heap.size, 0, none⟩ = false := x5.frozen 0; have b1 : w5.cell? ⟨w.heap.size, 1, none⟩ = some (.int .i64 put) := x5.cell 1; have bf1 : w5.frozen? ⟨w.heap.size, 1, none⟩ = false := x5.frozen 1; have b2 : w5.cell? ⟨w.heap.size, 2, none⟩ = some (.slice A n n) := x5.cell 2; have bf2 : w5.frozen? ⟨w.heap.size, 2, none⟩ = false := x5.frozen 2; have e0 : w5.cell? ⟨w.heap.size + 1, 0, none⟩ = some (.int .i64 0) := y5.cell 0; have ef0 : w5.frozen? ⟨w.heap.size + 1, 0, none⟩ = false := y5.frozen 0; have e1 : w5.cell? ⟨w.heap.size + 1, 1, none⟩ = some (.int .i64 0) := y5.cell 1; have ef1 : w5.frozen? ⟨w.heap.size + 1, 1, none⟩ = false := y5.frozen 1; have e2 : w5.cell? ⟨w.heap.size + 1, 2, none⟩ = some (.slice none 0 0) := y5.cell 2; have ef2 : w5.frozen? ⟨w.heap.size + 1, 2, none⟩ = false := y5.frozen 2; have HR5 := Lib.hid hr5; clear hap hr5 x5 y5))
      have lw5 : w.heap.size + 1 < w5.heap.size := by omega
      have lw50 : w.heap.size < w5.heap.size := by omega
      go_region
      go_wp2_with fail
      refine bodyPost_ret (v := .tuple #[.slice Ao n co, refV (now + 1) put A5 (n - n) c5]) (by simp [results, Try.results19, go_sem, e0, e1, e2]) rfl (tick_fin HG1.out HD.out HAO.out HTL.out HB3.out HG3.out HG4.out HKL.out HMM.out HR5.out ?_)
      exact (keeps_three ((Keeps.refl (fun b => w.heap.size ≤ b ∧ b < w3.heap.size) _).setCell (p := ⟨w.heap.size, 2, none⟩) (.inl ⟨by simp, by simp only; omega⟩) _) (w.heap.size + 1) ⟨by omega, by omega⟩ _ _ _).drew
    · obtain ⟨b, o, rfl⟩ : ∃ b o, A = some ⟨b, o, none⟩ := by
        rcases HF0.out.nil with e | e
        · omega
        · exact e
      have HRDX := Lib.hid (show ReadC wc (some ⟨b, o + k * 5, none⟩) ((G.drop k).flatMap mcell) from readC_drop HRD.out k)
      have HIX := Lib.hid (show n - k = 0 + (n - k) by omega)
      have HLX := HL2
      go_wp2_with (first
        | (at_builtin; refine wpList_append_cells _ rfl (.tmp 38) (.tmp 42) 46 80 5 56 rfl Try.underlying46 (by kernel_rfl) (by omega) (by omega) wc.heap.size (.slice (some ⟨wc.heap.size, 0, none⟩) 0 0) 0 [] (by rfl) HRW.out.row (some ⟨b, o + k * 5, none⟩) (c - k) (n - k) ((G.drop k).flatMap mcell) (by rfl) (HRDX.out.under (below_alloc (Below.refl _ _) _)) HLX.out (many_one _) (n - k) HIX.out ((G.drop k).flatMap mcell) rfl HI2.out (by simp) ?_; intro A5 c5 w5 hap; have hr5 := tick_left HD.out.taken.below HT3.out HG3.out HG4.out HGL.out hkn hap; have x5 := HX3C.out.under hr5.below; have y5 := HX7C.out.under hr5.below; have hz5 := hr5.below.size; have b0 : w5.cell? ⟨w.heap.size, 0, none⟩ = some (.int .i64 (now + 1)) := x5.cell 0; have bf0 : w5.frozen? ⟨w.heap.size, 0, none⟩ = false := x5.frozen 0; have b1 : w5.cell? ⟨w.heap.size, 1, none⟩ = some (.int .i64 put) := x5.cell 1; have bf1 : w5.frozen? ⟨w.heap.size, 1, none⟩ = false := x5.frozen 1; have b2 : w5.cell? ⟨w.heap.size, 2, none⟩ = some (.slice (some ⟨b, o, none⟩) n c) := x5.cell 2; have bf2 : w5.frozen? ⟨w.heap.size, 2, none⟩ = false := x5.frozen 2; have e0 : w5.cell? ⟨w.heap.size + 1, 0, none⟩ = some (.int .i64 0) := y5.cell 0; have ef0 : w5.frozen? ⟨w.heap.size + 1, 0, none⟩ = false := y5.frozen 0; have e1 : w5.cell? ⟨w.heap.size + 1, 1, none⟩ = some (.int .i64 0) := y5.cell 1; have ef1 : w5.frozen? ⟨w.heap.size + 1, 1, none⟩ = false := y5.frozen 1; have e2 : w5.cell? ⟨w.heap.size + 1, 2, none⟩ = some (.slice none 0 0) := y5.cell 2; have ef2 : w5.frozen? ⟨w.heap.size + 1, 2, none⟩ = false := y5.frozen 2; have HR5 := Lib.hid hr5; clear hap hr5 x5 y5))
      have lw5 : w.heap.size + 1 < w5.heap.size := by omega
      have lw50 : w.heap.size < w5.heap.size := by omega
      go_region
      go_wp2_with fail
      refine bodyPost_ret (v := .tuple #[.slice Ao k co, refV (now + 1) put A5 (n - k) c5]) (by simp [results, Try.results19, go_sem, e0, e1, e2]) rfl (tick_fin HG1.out HD.out HAO.out HTL.out HB3.out HG3.out HG4.out HKL.out HMM.out HR5.out ?_)
      exact (keeps_three ((Keeps.refl (fun b => w.heap.size ≤ b ∧ b < w3.heap.size) _).setCell (p := ⟨w.heap.size, 2, none⟩) (.inl ⟨by simp, by simp only; omega⟩) _) (w.heap.size + 1) ⟨by omega, by omega⟩ _ _ _).drew
end Go.Proofs.Ytkodmoeohffjhaa
