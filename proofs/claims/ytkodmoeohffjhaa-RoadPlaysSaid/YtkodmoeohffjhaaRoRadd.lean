/- The document's add walked. -/
import Derived.Test.YtkodmoeohffjhaaRoRef
namespace Go.Proofs.Ytkodmoeohffjhaa
open Go.RowKit Go.Proofs.Ytkodmoeohffjhaa.Hp
set_option linter.unusedVariables false
set_option linter.unusedSimpArgs false

/-- What a call of the document's road answers with a list of its own. -/
def RAnsF (now put : Int) (F : List MD) (T : Nat → Prop) (w : World) (e : Ending) (w' : World) : Prop :=
  ∃ A c, e = .returned (refV now put A F.length c) ∧ RefF F (Plus T w w') A c w' ∧ Below w.heap.size w w'
/-- The cells of the k-th mail. -/
theorem rmail_cells {w : World} {A : Option Addr} {G : List ME} {i : Nat} {q : ME} (h : ReadC w A (G.flatMap mcell)) (hq : G[i]? = some q) :
    ∃ b o, A = some ⟨b, o, none⟩ ∧ w.cell? ⟨b, o + i * 5, none⟩ = some (.int .i64 q.1.due) ∧ w.cell? ⟨b, o + i * 5 + 1, none⟩ = some (.int .i64 q.1.number) ∧ w.cell? ⟨b, o + i * 5 + 2, none⟩ = some (.int .i64 q.1.addr) ∧ w.cell? ⟨b, o + i * 5 + 3, none⟩ = some (.bool q.1.down) ∧ w.cell? ⟨b, o + i * 5 + 4, none⟩ = some (.slice q.2.1 q.1.bs.length q.2.2) := by
  obtain ⟨b, o, rfl, hc⟩ := mails_cells h i q hq
  exact ⟨b, o, rfl, hc 0 (by omega) _ rfl, by have := hc 1 (by omega) _ rfl; rwa [← Nat.add_assoc] at this, by have := hc 2 (by omega) _ rfl; rwa [← Nat.add_assoc] at this, by have := hc 3 (by omega) _ rfl; rwa [← Nat.add_assoc] at this, by have := hc 4 (by omega) _ rfl; rwa [← Nat.add_assoc] at this⟩
/-- How far the list has been gone through. -/
def Going (d : MD) (F : List MD) (k : Nat) (b : Bool) (X : List MD) : Prop := (if b then X ++ F.drop k else X ++ insB d (F.drop k)) = insB d F
theorem Going.start (d : MD) (F : List MD) : Going d F 0 false [] := rfl
theorem Going.done {d x : MD} {F : List MD} {k : Nat} {X : List MD} (h : Going d F k true X) (hx : F[k]? = some x) : Going d F (k + 1) true (X ++ [x]) := by
  unfold Going at *
  simp only [if_true] at *
  have hk := getElem?_lt hx
  rw [List.drop_eq_getElem_cons hk] at h
  rw [List.getElem?_eq_getElem hk] at hx
  rw [← Option.some.inj hx, ← h]
  simp
theorem Going.pass {d x : MD} {F : List MD} {k : Nat} {X : List MD} (h : Going d F k false X) (hx : F[k]? = some x) (ha : aheadB d x = false) : Going d F (k + 1) false (X ++ [x]) := by
  unfold Going at *
  simp only [Bool.false_eq_true, if_false] at *
  have hk := getElem?_lt hx
  rw [List.drop_eq_getElem_cons hk] at h
  rw [List.getElem?_eq_getElem hk] at hx
  rw [Option.some.inj hx] at h
  rw [← h, insB, if_neg (by rw [ha]; decide)]
  simp
theorem Going.put {d x : MD} {F : List MD} {k : Nat} {X : List MD} (h : Going d F k false X) (hx : F[k]? = some x) (ha : aheadB d x = true) : Going d F (k + 1) true (X ++ [d] ++ [x]) := by
  unfold Going at *
  simp only [Bool.false_eq_true, if_false, if_true] at *
  have hk := getElem?_lt hx
  rw [List.drop_eq_getElem_cons hk] at h
  rw [List.getElem?_eq_getElem hk] at hx
  rw [Option.some.inj hx] at h
  rw [← h, insB, if_pos ha]
  simp
theorem Going.len {d : MD} {F : List MD} {k : Nat} {b : Bool} {X : List MD} (h : Going d F k b X) : X.length ≤ F.length + 1 := by
  have := congrArg List.length h
  rw [insB_len] at this
  unfold Going at h
  cases b
  · simp only [Bool.false_eq_true, if_false, List.length_append] at this; omega
  · simp only [if_true, List.length_append] at this; omega
/-- What the walk holds at the head of its loop. -/
structure RAdd (d : MD) (F : List MD) (T : Nat → Prop) (w3 : World) (k : Nat) (b : Bool) (v : Value) (wr : World) : Prop where
  out : ∃ X : List ME, RRow T w3 v X wr ∧ Going d F k b (X.map Prod.fst)
theorem one_mcell (q : ME) : ∀ u ∈ mcell q, u.oneCell' = true := by
  intro u hu
  simp [mcell] at hu
  rcases hu with rfl | rfl | rfl | rfl | rfl <;> rfl
theorem row_len {T : Nat → Prop} {w0 w : World} {A : Option Addr} {n c : Nat} {X : List ME} {q : ME} (h : RRow T w0 (.slice A n c) (X ++ [q]) w) : OwnR w w0.heap.size 80 5 (.slice A n c) (X.length + 1) ((X ++ [q]).flatMap mcell) := by
  have := h.row
  simpa using this
theorem app_len {w w' : World} {base : Nat} {e : TypeId} {v v' : Value} {X : List ME} {d q : ME} (h : AppedR w w' base e 5 v v' (X.length + 1 + 1) ((X ++ [d]).flatMap mcell ++ mcell q)) : AppedR w w' base e 5 v v' ((X ++ [d]).length + 1) ((X ++ [d]).flatMap mcell ++ mcell q) := by
  simpa using h
/-- The new mail behind the row. -/
theorem put_new {T : Nat → Prop} {w3 wr w5 w6 : World} {vv v' : Value} {X : List ME} {d : MD} {A5 : Option Addr} {k5 : Nat} {o : Obj} {t : TypeId} {cs : Array Value} (hX : RRow T w3 vv X wr) (hb : Below wr.heap.size wr w5) (ho : OwnI w5 wr.heap.size 5 .u8 (.slice A5 d.bs.length k5) d.bs) (hx : Blk w5 wr.heap.size t cs)
    (ha : AppedR (w5.alloc o) w6 w3.heap.size 80 5 vv v' (X.length + 1) (X.flatMap mcell ++ mcell (d, A5, k5))) :
    RRow T w3 v' (X ++ [(d, A5, k5)]) w6 ∧ Blk w6 wr.heap.size t cs ∧ w5.heap.size ≤ w6.heap.size := by
  have h5 := hX.under hb
  have h6 := h5.under (below_alloc (Below.refl _ _) o)
  have hv : ∀ b, vv.ownBlock = some b → b < wr.heap.size := fun b hb' => (OwnR.blocks hX.row b hb').2
  have hz := hX.below.size
  have hsz := ha.only.size
  simp at hsz
  refine ⟨h6.push (q := (d, A5, k5)) ((OwnI.read ho).under (below_alloc (Below.refl _ _) o)) (fun b hb' => ?_) ha, (hx.alloc o).grown ha.only (fun e => by have := hv _ e.symm; omega), by omega⟩
  have h7 := OwnI.lt ho b hb'
  exact ⟨fun e => by have := hv b e; omega, .inr ⟨by omega, by simp; omega⟩⟩
theorem RefF.mono {F : List MD} {T T' : Nat → Prop} {A : Option Addr} {c : Nat} {w : World} (h : RefF F T A c w) (hT : ∀ b, T b → T' b) (hlt : ∀ b, T' b → b < w.heap.size) : RefF F T' A c w := by
  obtain ⟨G, h1, h2, h3, h4⟩ := h.out
  exact ⟨⟨G, h1, h2, h3, fun q hq b hb => hT b (h4 q hq b hb)⟩, fun b hb => hT b (h.blk b hb), hlt, h.cap, h.nil⟩
theorem fin_keeps {w w3 wr : World} (hz : w3.heap.size = w.heap.size + 1 + 1 + 1) (a b c d : Value) : Keeps (fun x => w.heap.size ≤ x ∧ x < w3.heap.size) wr ((((wr.setCell ⟨w.heap.size, 2, none⟩ a).setCell ⟨w.heap.size + 1 + 1, 0, none⟩ b).setCell ⟨w.heap.size + 1 + 1, 1, none⟩ c).setCell ⟨w.heap.size + 1 + 1, 2, none⟩ d) :=
  ((((Keeps.refl (fun x => w.heap.size ≤ x ∧ x < w3.heap.size) wr).setCell (p := ⟨w.heap.size, 2, none⟩) (.inl ⟨by simp, by simp only; omega⟩) a).setCell (p := ⟨w.heap.size + 1 + 1, 0, none⟩) (.inl ⟨by simp only; omega, by simp only; omega⟩) b).setCell (p := ⟨w.heap.size + 1 + 1, 1, none⟩) (.inl ⟨by simp only; omega, by simp only; omega⟩) c).setCell (p := ⟨w.heap.size + 1 + 1, 2, none⟩) (.inl ⟨by simp only; omega, by simp only; omega⟩) d
theorem put_new2 {T : Nat → Prop} {w3 wr w5 w6 : World} {vv v' : Value} {X : List ME} {d : MD} {A5 : Option Addr} {k5 : Nat} {o : Obj} (hX : RRow T w3 vv X wr) (hb : Below wr.heap.size wr w5) (ho : OwnI w5 wr.heap.size 5 .u8 (.slice A5 d.bs.length k5) d.bs)
    (ha : AppedR (w5.alloc o) w6 w3.heap.size 80 5 vv v' (X.length + 1) (X.flatMap mcell ++ mcell (d, A5, k5))) : RRow T w3 v' (X ++ [(d, A5, k5)]) w6 := by
  have h6 := (hX.under hb).under (below_alloc (Below.refl _ _) o)
  have hv : ∀ b, vv.ownBlock = some b → b < wr.heap.size := fun b hb' => (OwnR.blocks hX.row b hb').2
  have hz := hX.below.size
  refine h6.push (q := (d, A5, k5)) ((OwnI.read ho).under (below_alloc (Below.refl _ _) o)) (fun b hb' => ?_) ha
  have h7 := OwnI.lt ho b hb'
  exact ⟨fun e => by have := hv b e; omega, .inr ⟨by omega, by simp; omega⟩⟩
/-- The row is the answer. -/
theorem radd_fin {T : Nat → Prop} {w w3 wr w' : World} {A : Option Addr} {n c : Nat} {X : List ME} {F : List MD} (hX : RRow T w3 (.slice A n c) X wr) (hF : X.map Prod.fst = F) (hn : n = F.length) (hT : ∀ b, T b → b < w.heap.size) (hb3 : Below w.heap.size w w3) (k : Keeps (fun b => w.heap.size ≤ b ∧ b < w3.heap.size) wr w') :
    RefF F (Plus T w w') A c w' ∧ Below w.heap.size w w' := by
  have hz3 := hb3.size
  have hz := k.size
  have hzr := hX.below.size
  have hb := hb3.trans (hX.below.mono hz3)
  refine ⟨((hX.refF hF hn).keeps k (fun b hb' e => ?_)).mono (fun b hb' => ?_) (fun b hb' => ?_), Keeps.below hb k hb.size (fun b e => e.1)⟩
  · rcases hb' with x | x
    · have := hT b x; omega
    · omega
  · rcases hb' with x | x
    · exact .inl x
    · exact .inr ⟨by omega, by omega⟩
  · rcases hb' with x | x
    · have := hT b x; omega
    · exact x.2
theorem Blk.newAt3 (w : World) (o1 o2 : Obj) {t : TypeId} (Z : Array Value) : Blk (((w.alloc o1).alloc o2).alloc (.cells Z t)) (w.heap.size + 1 + 1) t Z := by
  have e : w.heap.size + 1 + 1 = ((w.alloc o1).alloc o2).heap.size := by simp
  rw [e]
  exact Blk.new _ _ _
theorem three_blk {w w3 : World} {t1 t2 t3 : TypeId} {X Y Z : Array Value} (h : w3 = ((w.alloc (.cells X t1)).alloc (.cells Y t2)).alloc (.cells Z t3)) :
    Below w.heap.size w w3 ∧ w3.heap.size = w.heap.size + 1 + 1 + 1 ∧ Blk w3 w.heap.size t1 X ∧ Blk w3 (w.heap.size + 1) t2 Y ∧ Blk w3 (w.heap.size + 1 + 1) t3 Z := by
  subst h
  refine ⟨below_alloc (below_alloc (below_alloc (Below.refl _ _) _) _) _, by simp, ((Blk.new w t1 X).alloc _).alloc _, (blk_new2 w _ _ _).alloc _, Blk.newAt3 w _ _ _⟩
set_option maxHeartbeats 4000000 in
set_option maxRecDepth 100000 in
theorem radd_any (now put due number addr : Int) (down : Bool) (A : Option Addr) (n c : Nat) (B : Option Addr) (nb cb : Nat) (bs : List Int) (F : List MD) (T : Nat → Prop) (w : World) (hF : RefF F T A c w) (hn : n = F.length) (hl : n ≤ 5000) (hr : ReadI w .u8 B bs) (hnb : nb = bs.length) (hbl : nb ≤ 1000000) :
    Calls Try.prog 31 #[refV now put A n c, .int .i64 due, .int .i64 number, gramV addr down B nb cb] w (RAnsF now put (insB ⟨due, number, addr, down, bs⟩ F) T w) := by
  obtain ⟨w3, hw3⟩ : ∃ w3, w3 = ((w.alloc (.cells #[.int .i64 now, .int .i64 put, .slice A n c] 48)).alloc (.cells #[.int .i64 addr, .bool down, .slice B nb cb] 32)).alloc (.cells #[.int .i64 0, .int .i64 0, .slice none 0 0] 48) := ⟨_, rfl⟩
  obtain ⟨hb3, hz3, x4, x7, x8⟩ := three_blk hw3
  have HF := Lib.hid hF
  have HRB := Lib.hid (hr.under hb3)
  have HN := Lib.hid hn
  have HNB := Lib.hid hnb
  have HW := Lib.hid hw3
  have HB3 := Lib.hid hb3
  have HX4 := Lib.hid x4
  have HX7 := Lib.hid x7
  have HX8 := Lib.hid x8
  have HZ := Lib.hid hz3
  have HST := Lib.hid (RRow.start (T := T) (w0 := w3) (fun b hb => by have := hF.lt b hb; omega) (Below.refl _ w3) _ hz3.symm)
  clear hF hr hn hnb hw3 hb3 x4 x7 x8 hz3
  go_enter Try.func31, Try.ntmps31
  go_wp2_with fail
  rw [← HW.out]
  go_loopw [9, 10, 17] (fun v b i wr => ∃ (k : Nat) (dn : Bool), k ≤ n ∧ i = .int .i64 k ∧ b = .bool dn ∧ RAdd ⟨due, number, addr, down, bs⟩ F T w3 k dn v wr) (fun _ _ i _ => n - (intOf i).toNat)
  case atStart => exact ⟨0, false, by omega, rfl, rfl, ⟨[], HST.out, Going.start _ _⟩⟩
  case round =>
    obtain ⟨k, dn, hk, rfl, rfl, hA⟩ := hrel
    obtain ⟨vv, rfl⟩ : ∃ o : Value, o = u9 := ⟨_, rfl⟩
    obtain ⟨X, hX, hG⟩ := hA.out
    clear hA
    have hXl := hG.len
    have hXl2 : X.length ≤ n + 1 := by have := HN.out; simp at hXl; omega
    have c4 : wr.cell? ⟨w.heap.size, 2, none⟩ = some (.slice A n c) := (hX.below.cell (p := ⟨w.heap.size, 2, none⟩) (by have := HZ.out; simp only; omega)).trans (HX4.out.cell 2)
    have lz : w3.heap.size ≤ wr.heap.size := hX.below.size
    have lw : w.heap.size + 1 + 1 < wr.heap.size := by have := HZ.out; omega
    have lw1 : w.heap.size + 1 < wr.heap.size := by omega
    have lw2 : ¬ w.heap.size + 1 = wr.heap.size := by omega
    have HXR := Lib.hid hX
    have HG := Lib.hid hG
    clear hX hG hXl
    by_cases hlt : k < n
    · obtain ⟨G, g1, g2, g3, g4⟩ := HF.out.out
      have hGl : G.length = n := by rw [HN.out, ← g1]; simp
      obtain ⟨q, hq⟩ : ∃ q, G[k]? = some q := ⟨_, List.getElem?_eq_getElem (by omega)⟩
      have hFq : F[k]? = some q.1 := by rw [← g1, List.getElem?_map, hq]; rfl
      have hbw := HB3.out.trans (HXR.out.below.mono HB3.out.size)
      obtain ⟨b, o, rfl, q0, q1, q2, q3, q4⟩ := rmail_cells (g2.under hbw) hq
      have hqr := (g3 q (List.mem_of_getElem? hq)).under HB3.out
      have hqT := g4 q (List.mem_of_getElem? hq)
      have lb := World.block_lt_of_cell? wr _ q0
      simp only at lb
      have i1 : (k : Int) < (n : Int) := by omega
      -- the element behind the row, in whatever world has grown so far
      have HPU := Lib.hid (fun (wx w6 : World) (v v' : Value) (Y : List ME) (hY : RRow T w3 v Y wx) (ha : AppedR wx w6 w3.heap.size 80 5 v v' (Y.length + 1) (Y.flatMap mcell ++ mcell q)) =>
        hY.push (hqr.under hY.below) (fun b hb' => ⟨fun e => by have := (OwnR.blocks hY.row b e).1; have := HF.out.lt b (hqT b hb'); have := HZ.out; omega, .inl (hqT b hb')⟩) ha)
      have HFQ := Lib.hid hFq
      clear g1 g2 g3 g4 hGl hq hFq hbw hqr hqT
      cases dn
      · have HRBW := Lib.hid (HRB.out.under HXR.out.below)
        have m0 : wr.cell? ⟨w.heap.size + 1, 0, none⟩ = some (.int .i64 addr) := (HX7.out.under HXR.out.below).cell 0
        have m1 : wr.cell? ⟨w.heap.size + 1, 1, none⟩ = some (.bool down) := (HX7.out.under HXR.out.below).cell 1
        have m2 : wr.cell? ⟨w.heap.size + 1, 2, none⟩ = some (.slice B nb cb) := (HX7.out.under HXR.out.below).cell 2
        rcases Int.lt_trichotomy due q.1.due with h1 | h1 | h1
        · have t1 : decide (due < q.1.due) = true := decide_eq_true h1
          have HAH := Lib.hid (show aheadB ⟨due, number, addr, down, bs⟩ q.1 = true by rw [ahead_iff]; exact .inl h1)
          clear h1
          go_wp2_with (first
            | (go_at_call 44; refine (copied_any addr down B nb cb bs _ (HRBW.out.under (below_alloc (Below.refl _ _) _)) HNB.out hbl).mono ?_; rintro e w5 ⟨A5, k5, rfl, ho5, hb5⟩; have hx5 := (Blk.new wr _ _).under hb5; obtain ⟨hb50, hz50⟩ := below_new hb5; have HX5 := Lib.hid hx5; have HO5 := Lib.hid (show OwnI w5 wr.heap.size 5 .u8 (.slice A5 bs.length k5) bs from OwnI.mono ho5 (by simp)); have HB5 := Lib.hid hb50; clear hx5 ho5 hb5 hb50)
            | (at_builtin; refine wpList_append_cells _ rfl (.tmp 45) (.tmp 51) 46 80 5 56 rfl Try.underlying46 (by kernel_rfl) (by omega) (by omega) w3.heap.size vv X.length (X.flatMap mcell) (by rfl) ((HXR.out.row.under HB5.out).under (below_alloc (Below.refl _ _) _)) (some ⟨w5.heap.size, 0, none⟩) 1 1 (mcell (⟨due, number, addr, down, bs⟩, A5, k5)) (by rfl) (Blk.read (Blk.new w5 _ _)) rfl (one_mcell _) (X.length + 1) rfl _ rfl (by omega) (by simp; omega) ?_; intro A6 c6 w6 hap; obtain ⟨hr6, hx6, hz6⟩ := put_new HXR.out HB5.out HO5.out HX5.out hap; have HR6 := Lib.hid hr6; have z0 := hx6.cell 0; have z1 := hx6.cell 1; have z2 := hx6.cell 2; have z3 := hx6.cell 3; have z4 := hx6.cell 4; simp at z0 z1 z2 z3 z4; have HROW6 := Lib.hid (row_len hr6); clear hap hr6 hx6)
            | (at_builtin; refine wpList_append_cells _ rfl (.tmp 53) (.tmp 55) 46 80 5 56 rfl Try.underlying46 (by kernel_rfl) (by omega) (by omega) w3.heap.size (.slice A6 (X.length + 1) c6) (X.length + 1) _ (by rfl) (HROW6.out.under (below_alloc (Below.refl _ _) _)) (some ⟨w6.heap.size, 0, none⟩) 1 1 (mcell q) (by rfl) (Blk.read (Blk.new w6 _ _)) rfl (one_mcell q) (X.length + 1 + 1) rfl _ rfl (by omega) (by simp; omega) ?_; intro A7 c7 w7 hap; have HAP := Lib.hid hap; clear hap))
          have HR7 := Lib.hid (HPU.out _ w7 _ _ _ (HR6.out.under (below_alloc (Below.refl _ _) _)) (app_len HAP.out))
          have HG7 := Lib.hid (show Going ⟨due, number, addr, down, bs⟩ F (k + 1) true ((X ++ [((⟨due, number, addr, down, bs⟩ : MD), A5, k5)] ++ [q]).map Prod.fst) by rw [List.map_append, List.map_append]; exact HG.out.put HFQ.out HAH.out)
          clear HAP HPU HR6 HROW6
          go_roundw
          case rel => exact ⟨k + 1, true, by omega, by go_num, rfl, ⟨_, HR7.out, HG7.out⟩⟩
          case measure => simp [intOf]; omega
        · have t1 : decide (due < q.1.due) = false := decide_eq_false (by omega)
          have t2 : (q.1.due == due) = true := by rw [beq_iff_eq]; exact h1.symm
          by_cases h2 : number < q.1.number
          · have t3 : decide (number < q.1.number) = true := decide_eq_true h2
            have HAH := Lib.hid (show aheadB ⟨due, number, addr, down, bs⟩ q.1 = true by rw [ahead_iff]; exact .inr ⟨h1, h2⟩)
            clear h1 h2
            go_wp2_with (first
              | (go_at_call 44; refine (copied_any addr down B nb cb bs _ (HRBW.out.under (below_alloc (Below.refl _ _) _)) HNB.out hbl).mono ?_; rintro e w5 ⟨A5, k5, rfl, ho5, hb5⟩; have hx5 := (Blk.new wr _ _).under hb5; obtain ⟨hb50, hz50⟩ := below_new hb5; have HX5 := Lib.hid hx5; have HO5 := Lib.hid (show OwnI w5 wr.heap.size 5 .u8 (.slice A5 bs.length k5) bs from OwnI.mono ho5 (by simp)); have HB5 := Lib.hid hb50; clear hx5 ho5 hb5 hb50)
              | (at_builtin; refine wpList_append_cells _ rfl (.tmp 45) (.tmp 51) 46 80 5 56 rfl Try.underlying46 (by kernel_rfl) (by omega) (by omega) w3.heap.size vv X.length (X.flatMap mcell) (by rfl) ((HXR.out.row.under HB5.out).under (below_alloc (Below.refl _ _) _)) (some ⟨w5.heap.size, 0, none⟩) 1 1 (mcell (⟨due, number, addr, down, bs⟩, A5, k5)) (by rfl) (Blk.read (Blk.new w5 _ _)) rfl (one_mcell _) (X.length + 1) rfl _ rfl (by omega) (by simp; omega) ?_; intro A6 c6 w6 hap; obtain ⟨hr6, hx6, hz6⟩ := put_new HXR.out HB5.out HO5.out HX5.out hap; have HR6 := Lib.hid hr6; have z0 := hx6.cell 0; have z1 := hx6.cell 1; have z2 := hx6.cell 2; have z3 := hx6.cell 3; have z4 := hx6.cell 4; simp at z0 z1 z2 z3 z4; have HROW6 := Lib.hid (row_len hr6); clear hap hr6 hx6)
              | (at_builtin; refine wpList_append_cells _ rfl (.tmp 53) (.tmp 55) 46 80 5 56 rfl Try.underlying46 (by kernel_rfl) (by omega) (by omega) w3.heap.size (.slice A6 (X.length + 1) c6) (X.length + 1) _ (by rfl) (HROW6.out.under (below_alloc (Below.refl _ _) _)) (some ⟨w6.heap.size, 0, none⟩) 1 1 (mcell q) (by rfl) (Blk.read (Blk.new w6 _ _)) rfl (one_mcell q) (X.length + 1 + 1) rfl _ rfl (by omega) (by simp; omega) ?_; intro A7 c7 w7 hap; have HAP := Lib.hid hap; clear hap))
            have HR7 := Lib.hid (HPU.out _ w7 _ _ _ (HR6.out.under (below_alloc (Below.refl _ _) _)) (app_len HAP.out))
            have HG7 := Lib.hid (show Going ⟨due, number, addr, down, bs⟩ F (k + 1) true ((X ++ [((⟨due, number, addr, down, bs⟩ : MD), A5, k5)] ++ [q]).map Prod.fst) by rw [List.map_append, List.map_append]; exact HG.out.put HFQ.out HAH.out)
            clear HAP HPU HR6 HROW6
            go_roundw
            case rel => exact ⟨k + 1, true, by omega, by go_num, rfl, ⟨_, HR7.out, HG7.out⟩⟩
            case measure => simp [intOf]; omega
          · have t3 : decide (number < q.1.number) = false := decide_eq_false h2
            have HAH := Lib.hid (show aheadB ⟨due, number, addr, down, bs⟩ q.1 = false by rw [nahead_iff]; simp only; omega)
            clear h1 h2
            go_wp2_with (at_builtin; refine wpList_append_cells _ rfl (.tmp 53) (.tmp 55) 46 80 5 56 rfl Try.underlying46 (by kernel_rfl) (by omega) (by omega) w3.heap.size vv X.length (X.flatMap mcell) (by rfl) (HXR.out.row.under (below_alloc (below_alloc (Below.refl _ _) _) _)) (some ⟨wr.heap.size + 1, 0, none⟩) 1 1 (mcell q) (by rfl) (Blk.read (blk_new2 wr _ _ _)) rfl (one_mcell q) (X.length + 1) rfl _ rfl (by omega) (by simp; omega) ?_; intro A6 c6 w6 hap; have HAP := Lib.hid hap; clear hap)
            have HR6 := Lib.hid (HPU.out _ w6 _ _ X (HXR.out.under (below_alloc (below_alloc (Below.refl _ _) _) _)) HAP.out)
            have HG6 := Lib.hid (show Going ⟨due, number, addr, down, bs⟩ F (k + 1) false ((X ++ [q]).map Prod.fst) by rw [List.map_append]; exact HG.out.pass HFQ.out HAH.out)
            clear HAP HPU
            go_roundw
            case rel => exact ⟨k + 1, false, by omega, by go_num, rfl, ⟨X ++ [q], HR6.out, HG6.out⟩⟩
            case measure => simp [intOf]; omega
        · have t1 : decide (due < q.1.due) = false := decide_eq_false (by omega)
          have t2 : (q.1.due == due) = false := by rw [beq_eq_false_iff_ne]; omega
          have HAH := Lib.hid (show aheadB ⟨due, number, addr, down, bs⟩ q.1 = false by rw [nahead_iff]; simp only; omega)
          clear h1
          go_wp2_with (at_builtin; refine wpList_append_cells _ rfl (.tmp 53) (.tmp 55) 46 80 5 56 rfl Try.underlying46 (by kernel_rfl) (by omega) (by omega) w3.heap.size vv X.length (X.flatMap mcell) (by rfl) (HXR.out.row.under (below_alloc (below_alloc (Below.refl _ _) _) _)) (some ⟨wr.heap.size + 1, 0, none⟩) 1 1 (mcell q) (by rfl) (Blk.read (blk_new2 wr _ _ _)) rfl (one_mcell q) (X.length + 1) rfl _ rfl (by omega) (by simp; omega) ?_; intro A6 c6 w6 hap; have HAP := Lib.hid hap; clear hap)
          have HR6 := Lib.hid (HPU.out _ w6 _ _ X (HXR.out.under (below_alloc (below_alloc (Below.refl _ _) _) _)) HAP.out)
          have HG6 := Lib.hid (show Going ⟨due, number, addr, down, bs⟩ F (k + 1) false ((X ++ [q]).map Prod.fst) by rw [List.map_append]; exact HG.out.pass HFQ.out HAH.out)
          clear HAP HPU
          go_roundw
          case rel => exact ⟨k + 1, false, by omega, by go_num, rfl, ⟨X ++ [q], HR6.out, HG6.out⟩⟩
          case measure => simp [intOf]; omega
      · go_wp2_with (at_builtin; refine wpList_append_cells _ rfl (.tmp 53) (.tmp 55) 46 80 5 56 rfl Try.underlying46 (by kernel_rfl) (by omega) (by omega) w3.heap.size vv X.length (X.flatMap mcell) (by rfl) (HXR.out.row.under (below_alloc (below_alloc (Below.refl _ _) _) _)) (some ⟨wr.heap.size + 1, 0, none⟩) 1 1 (mcell q) (by rfl) (Blk.read (blk_new2 wr _ _ _)) rfl (one_mcell q) (X.length + 1) rfl _ rfl (by omega) (by simp; omega) ?_; intro A6 c6 w6 hap; have HAP := Lib.hid hap; clear hap)
        have HR6 := Lib.hid (HPU.out _ w6 _ _ X (HXR.out.under (below_alloc (below_alloc (Below.refl _ _) _) _)) HAP.out)
        have HG6 := Lib.hid (show Going ⟨due, number, addr, down, bs⟩ F (k + 1) true ((X ++ [q]).map Prod.fst) by rw [List.map_append]; exact HG.out.done HFQ.out)
        clear HAP HPU
        go_roundw
        case rel => exact ⟨k + 1, true, by omega, by go_num, rfl, ⟨X ++ [q], HR6.out, HG6.out⟩⟩
        case measure => simp [intOf]; omega
    · obtain rfl : k = n := by omega
      have hd : F.drop k = [] := List.drop_eq_nil_of_le (by have := HN.out; omega)
      have HTL := Lib.hid HF.out.lt
      have a0 := (HX4.out.under HXR.out.below)
      have a8 := (HX8.out.under HXR.out.below)
      cases dn
      · have HRBW := Lib.hid (HRB.out.under HXR.out.below)
        have m0 : wr.cell? ⟨w.heap.size + 1, 0, none⟩ = some (.int .i64 addr) := (HX7.out.under HXR.out.below).cell 0
        have m1 : wr.cell? ⟨w.heap.size + 1, 1, none⟩ = some (.bool down) := (HX7.out.under HXR.out.below).cell 1
        have m2 : wr.cell? ⟨w.heap.size + 1, 2, none⟩ = some (.slice B nb cb) := (HX7.out.under HXR.out.below).cell 2
        have hFE : X.map Prod.fst ++ [(⟨due, number, addr, down, bs⟩ : MD)] = insB ⟨due, number, addr, down, bs⟩ F := by have := HG.out; unfold Going at this; rw [hd] at this; simpa [insB] using this
        have HFE0 := Lib.hid hFE
        clear a0 a8 hd hFE
        go_wp2_with (first
          | (go_at_call 44; refine (copied_any addr down B nb cb bs _ HRBW.out HNB.out hbl).mono ?_; rintro e w5 ⟨A5, k5, rfl, ho5, hb5⟩; have HO5 := Lib.hid ho5; have HB5 := Lib.hid hb5; have hz5 := hb5.size; clear ho5 hb5)
          | (at_builtin; refine wpList_append_cells _ rfl (.tmp 60) (.tmp 66) 46 80 5 56 rfl Try.underlying46 (by kernel_rfl) (by omega) (by omega) w3.heap.size vv X.length (X.flatMap mcell) (by rfl) ((HXR.out.row.under HB5.out).under (below_alloc (Below.refl _ _) _)) (some ⟨w5.heap.size, 0, none⟩) 1 1 (mcell (⟨due, number, addr, down, bs⟩, A5, k5)) (by rfl) (Blk.read (Blk.new w5 _ _)) rfl (one_mcell _) (X.length + 1) rfl _ rfl (by omega) (by simp; omega) ?_; intro AX cX w6 hap; have hr6 := put_new2 HXR.out HB5.out HO5.out hap; have a0 := HX4.out.under hr6.below; have a8 := HX8.out.under hr6.below; have lz6 := hr6.below.size; have b0 : w6.cell? ⟨w.heap.size, 0, none⟩ = some (.int .i64 now) := a0.cell 0; have b1 : w6.cell? ⟨w.heap.size, 1, none⟩ = some (.int .i64 put) := a0.cell 1; have b9 : w6.cell? ⟨w.heap.size, 2, none⟩ = some (.slice A k c) := a0.cell 2; have b2 : w6.frozen? ⟨w.heap.size, 2, none⟩ = false := a0.frozen 2; have e0 : w6.cell? ⟨w.heap.size + 1 + 1, 0, none⟩ = some (.int .i64 0) := a8.cell 0; have e1 : w6.cell? ⟨w.heap.size + 1 + 1, 1, none⟩ = some (.int .i64 0) := a8.cell 1; have e2 : w6.cell? ⟨w.heap.size + 1 + 1, 2, none⟩ = some (.slice none 0 0) := a8.cell 2; have e3 : w6.frozen? ⟨w.heap.size + 1 + 1, 0, none⟩ = false := a8.frozen 0; have e4 : w6.frozen? ⟨w.heap.size + 1 + 1, 1, none⟩ = false := a8.frozen 1; have e5 : w6.frozen? ⟨w.heap.size + 1 + 1, 2, none⟩ = false := a8.frozen 2; have HXE := Lib.hid hr6; clear hap hr6 a0 a8))
        have HFE := Lib.hid (show (X ++ [((⟨due, number, addr, down, bs⟩ : MD), A5, k5)]).map Prod.fst = insB ⟨due, number, addr, down, bs⟩ F by rw [List.map_append]; exact HFE0.out)
        have HNE := Lib.hid (show X.length + 1 = (insB ⟨due, number, addr, down, bs⟩ F).length by rw [← HFE0.out]; simp)
        refine bodyPost_ret (v := refV now put AX (X.length + 1) cX) (by simp [results, Try.results31, go_sem, e0, e1, e2]) rfl ?_
        obtain ⟨f1, f2⟩ := radd_fin HXE.out HFE.out HNE.out HTL.out HB3.out (fin_keeps HZ.out _ _ _ _)
        exact ⟨AX, cX, by rw [← HNE.out], f1, f2⟩
      · obtain ⟨AX, cX, rfl, _, _⟩ := OwnR.form HXR.out.row
        have hFE : X.map Prod.fst = insB ⟨due, number, addr, down, bs⟩ F := by have := HG.out; unfold Going at this; rw [hd] at this; simpa using this
        have HFE := Lib.hid hFE
        have HNE := Lib.hid (show X.length = (insB ⟨due, number, addr, down, bs⟩ F).length by rw [← hFE]; simp)
        have HXE := HXR
        have b0 : wr.cell? ⟨w.heap.size, 0, none⟩ = some (.int .i64 now) := a0.cell 0
        have b1 : wr.cell? ⟨w.heap.size, 1, none⟩ = some (.int .i64 put) := a0.cell 1
        have b2 : wr.frozen? ⟨w.heap.size, 2, none⟩ = false := a0.frozen 2
        have e0 : wr.cell? ⟨w.heap.size + 1 + 1, 0, none⟩ = some (.int .i64 0) := a8.cell 0
        have e1 : wr.cell? ⟨w.heap.size + 1 + 1, 1, none⟩ = some (.int .i64 0) := a8.cell 1
        have e2 : wr.cell? ⟨w.heap.size + 1 + 1, 2, none⟩ = some (.slice none 0 0) := a8.cell 2
        have e3 : wr.frozen? ⟨w.heap.size + 1 + 1, 0, none⟩ = false := a8.frozen 0
        have e4 : wr.frozen? ⟨w.heap.size + 1 + 1, 1, none⟩ = false := a8.frozen 1
        have e5 : wr.frozen? ⟨w.heap.size + 1 + 1, 2, none⟩ = false := a8.frozen 2
        clear a0 a8 hd hFE
        go_wp2_with fail
        refine bodyPost_ret (v := refV now put AX X.length cX) (by simp [results, Try.results31, go_sem, e0, e1, e2]) rfl ?_
        obtain ⟨f1, f2⟩ := radd_fin HXE.out HFE.out HNE.out HTL.out HB3.out (fin_keeps HZ.out _ _ _ _)
        exact ⟨AX, cX, by rw [← HNE.out], f1, f2⟩
end Go.Proofs.Ytkodmoeohffjhaa
