/- ParseBack walked. -/
import Derived.Test.YtijjnpegokfidaaDoorPaLawL
namespace Go.Proofs.YtijjnpegokfidaaDoor.Pa

theorem layB_len2 (a : TAct) (h : LayOk a) : (layB a).length ≤ 259 := by
  unfold layB
  rcases h with ⟨k, h⟩ | ⟨k, h⟩ | ⟨k, h⟩ | ⟨k, h⟩ | ⟨k, h⟩
  · rw [if_pos k]; have := Utf.enc_le a.rune; omega
  · rw [if_neg (by omega), if_pos k]; simp
  · rw [if_neg (by omega), if_neg (by omega), if_pos k]; split <;> simp
  · rw [if_neg (by omega), if_neg (by omega), if_neg (by omega), if_pos k]; have := csiB_len a h; omega
  · rw [if_neg (by omega), if_neg (by omega), if_neg (by omega), if_neg (by omega)]; have := h.tlen; simp only [List.length_append, List.length_cons, List.length_nil]; omega
theorem numsB_byte (l : List Int) : ∀ x ∈ numsB l, 0 ≤ x ∧ x < 256 := by
  intro x hx
  unfold numsB at hx
  obtain ⟨n, _, hx⟩ := List.mem_flatMap.1 (List.mem_of_mem_drop hx)
  rcases List.mem_cons.1 hx with rfl | hx
  · omega
  · have := dec_byte _ x hx; omega
theorem layB_byte (a : TAct) (h : LayOk a) (hm : 0 ≤ a.mark ∧ a.mark < 256) (hf : 0 ≤ a.final ∧ a.final < 256) (ht : ∀ x ∈ a.text, 0 ≤ x ∧ x < 256) : ∀ x ∈ layB a, 0 ≤ x ∧ x < 256 := by
  unfold layB
  rcases h with ⟨k, h⟩ | ⟨k, h⟩ | ⟨k, h⟩ | ⟨k, h⟩ | ⟨k, h⟩
  · rw [if_pos k]; exact fun x hx => Utf.enc_byte _ x hx
  · rw [if_neg (by omega), if_pos k]; intro x hx; rw [List.mem_singleton.1 hx]; exact hf
  · rw [if_neg (by omega), if_neg (by omega), if_pos k]
    intro x hx
    split at hx
    · simp at hx; omega
    · simp at hx; omega
  · rw [if_neg (by omega), if_neg (by omega), if_neg (by omega), if_pos k]
    intro x hx
    unfold csiB csiH at hx
    simp only [List.mem_append] at hx
    rcases hx with (((hx | hx) | hx) | hx) | hx
    · simp at hx; omega
    · split at hx
      · simp at hx; omega
      · cases hx
    · exact numsB_byte _ x hx
    · split at hx
      · simp at hx; omega
      · cases hx
    · simp at hx; omega
  · rw [if_neg (by omega), if_neg (by omega), if_neg (by omega), if_neg (by omega)]
    intro x hx
    simp only [List.mem_append] at hx
    rcases hx with (hx | hx) | hx
    · simp at hx; omega
    · exact ht x hx
    · simp at hx; omega
theorem LayOk.small {a : TAct} (h : LayOk a) : a.params.length ≤ 16 ∧ a.text.length ≤ 256 := by
  rcases h with ⟨_, h⟩ | ⟨_, h⟩ | ⟨_, h⟩ | ⟨_, h⟩ | ⟨_, h⟩
  · rw [h.params, h.text]; simp
  · rw [h.params, h.text]; simp
  · rw [h.params, h.text]; simp
  · rw [h.text]; exact ⟨h.plen, by simp⟩
  · rw [h.params]; exact ⟨by simp, h.tlen⟩
theorem lays_len (L : List TAct) (h : ∀ a ∈ L, LayOk a) : (L.flatMap layB).length ≤ 259 * L.length := by
  induction L with
  | nil => simp
  | cons a L ih =>
    have h1 := ih (fun x hx => h x (List.mem_cons_of_mem _ hx))
    have h2 := layB_len2 a (h a (List.mem_cons_self ..))
    simp only [List.flatMap_cons, List.length_append, List.length_cons]
    omega
end Go.Proofs.YtijjnpegokfidaaDoor.Pa
namespace Go.Proofs.YtijjnpegokfidaaDoor
open Go.RowKit
open Pa
set_option linter.unusedVariables false
set_option linter.unusedSimpArgs false

/-- Acts that came in, in a slice. -/
structure CameL (w : World) (A : Option Addr) (L : List AE) : Prop where
  rd : RdA w A L
  each : ∀ q ∈ L, ∃ P X pc xc, q.2.1 = .slice P q.1.params.length pc ∧ q.2.2 = .slice X q.1.text.length xc ∧ Came w q.1 P X
  lens : ∀ q ∈ L, q.1.params.length ≤ 9223372036854775807 ∧ q.1.text.length ≤ 9223372036854775807
/-- What was kept so far: the acts E, their bytes. -/
structure BackI (w wr : World) (A B : Option Addr) (n c d k : Nat) (E : List AE) : Prop where
  len : n = ((E.map (·.1)).flatMap layB).length
  own : OwnI wr w.heap.size 5 .u8 (.slice A n c) ((E.map (·.1)).flatMap layB)
  row : OwnR wr w.heap.size 25 6 (.slice B E.length d) E.length (E.flatMap acell)
  apart : Apart (.slice A n c) (.slice B E.length d)
  each : ∀ q ∈ E, LayOk q.1 ∧ (0 ≤ q.1.mark ∧ q.1.mark < 256) ∧ (0 ≤ q.1.final ∧ q.1.final < 256) ∧ (∀ x ∈ q.1.text, 0 ≤ x ∧ x < 256) ∧ ∃ P X pc xc, q.2.1 = .slice P q.1.params.length pc ∧ q.2.2 = .slice X q.1.text.length xc ∧ ReadI w .i64 P q.1.params ∧ ReadI w .u8 X q.1.text
  few : E.length ≤ k
  bel : Below w.heap.size w wr
theorem BackI.under {w wr w' : World} {A B : Option Addr} {n c d k : Nat} {E : List AE} (h : BackI w wr A B n c d k E) (hb : Below wr.heap.size wr w') : BackI w w' A B n c d k E :=
  ⟨h.len, h.own.under hb, OwnR.under h.row hb, h.apart, h.each, h.few, h.bel.trans (hb.mono h.bel.size)⟩
theorem BackI.more {w wr : World} {A B : Option Addr} {n c d k : Nat} {E : List AE} (h : BackI w wr A B n c d k E) : BackI w wr A B n c d (k + 1) E :=
  ⟨h.len, h.own, h.row, h.apart, h.each, by have := h.few; omega, h.bel⟩
theorem BackI.one {w wr : World} {A B : Option Addr} {n c d k : Nat} {E : List AE} (h : BackI w wr A B n c d k E) : ∀ u ∈ E.flatMap acell, u.oneCell' = true := by
  intro u hu
  obtain ⟨q, hq, hu⟩ := List.mem_flatMap.1 hu
  obtain ⟨_, _, _, _, P, X, pc, xc, e1, e2, _⟩ := h.each q hq
  exact oneCell_act q ⟨_, _, _, e1⟩ ⟨_, _, _, e2⟩ u hu
theorem BackI.short {w wr : World} {A B : Option Addr} {n c d k : Nat} {E : List AE} (h : BackI w wr A B n c d k E) : n ≤ 259 * E.length := by
  rw [h.len]
  have := lays_len (E.map (·.1)) (fun a ha => by
    obtain ⟨q, hq, rfl⟩ := List.mem_map.1 ha
    exact (h.each q hq).1)
  simpa using this
theorem BackI.byte {w wr : World} {A B : Option Addr} {n c d k : Nat} {E : List AE} (h : BackI w wr A B n c d k E) : ∀ x ∈ (E.map (·.1)).flatMap layB, 0 ≤ x ∧ x < 256 := by
  intro x hx
  obtain ⟨a, ha, hx⟩ := List.mem_flatMap.1 hx
  obtain ⟨q, hq, rfl⟩ := List.mem_map.1 ha
  obtain ⟨h1, h2, h3, h4, _⟩ := h.each q hq
  exact layB_byte _ h1 h2 h3 h4 x hx
theorem BackI.rd {w wr : World} {A B : Option Addr} {n c d k : Nat} {E : List AE} (h : BackI w wr A B n c d k E) : RdA wr B E := by
  refine ⟨OwnR.read h.row, fun q hq => ?_, fun q hq => ?_⟩
  · obtain ⟨_, _, _, _, P, X, pc, xc, e1, _, h1, _⟩ := h.each q hq
    exact ⟨P, pc, e1, h1.under h.bel⟩
  · obtain ⟨_, _, _, _, P, X, pc, xc, _, e2, _, h2⟩ := h.each q hq
    exact ⟨X, xc, e2, h2.under h.bel⟩
/-- One more is kept: its bytes behind the bytes, it behind the acts. -/
theorem BackI.keep {w wr w1 w2 : World} {A B A' B' : Option Addr} {n c d k n' c' d' : Nat} {E : List AE} (h : BackI w wr A B n c d k E) (q : AE)
    (hq : LayOk q.1 ∧ (0 ≤ q.1.mark ∧ q.1.mark < 256) ∧ (0 ≤ q.1.final ∧ q.1.final < 256) ∧ (∀ x ∈ q.1.text, 0 ≤ x ∧ x < 256) ∧ ∃ P X pc xc, q.2.1 = .slice P q.1.params.length pc ∧ q.2.2 = .slice X q.1.text.length xc ∧ ReadI w .i64 P q.1.params ∧ ReadI w .u8 X q.1.text)
    (h1 : Apped wr w1 w.heap.size 5 .u8 (.slice A n c) (.slice A' n' c') ((E.map (·.1)).flatMap layB ++ layB q.1)) (hn : n' = n + (layB q.1).length) (o : Obj)
    (h2 : AppedR (w1.alloc o) w2 w.heap.size 25 6 (.slice B E.length d) (.slice B' (E.length + 1) d') (E.length + 1) ((E ++ [q]).flatMap acell)) :
    BackI w w2 A' B' n' c' d' (k + 1) (E ++ [q]) := by
  have e : ((E ++ [q]).map (·.1)).flatMap layB = (E.map (·.1)).flatMap layB ++ layB q.1 := by simp
  have hl : (E ++ [q]).length = E.length + 1 := by simp
  have hz1 := h1.only.size
  refine ⟨by rw [e, List.length_append, hn, h.len], ?_, by rw [hl]; exact h2.own, ?_, fun p hp => ?_, by have := h.few; rw [hl]; omega, ?_⟩
  · rw [e]
    refine (h1.own.alloc o).only h2.only ?_
    cases hv : (Value.slice A' n' c').ownBlock with
    | none => exact .inl rfl
    | some g =>
      refine .inr fun x => ?_
      rcases h1.where_ with y | y
      · rw [hv] at y
        exact h.apart g y.symm x.symm
      · rw [hv] at y
        injection y with y
        have := (OwnR.blocks h.row g x.symm).2
        omega
  · intro g hg hb
    rw [hl] at hb
    rcases h1.where_ with y | y
    · rcases h2.where_ with z | z
      · rw [z] at hb; rw [y] at hg; exact h.apart g hg hb
      · rw [z] at hb; injection hb with hb
        rw [y] at hg
        have := (h.own.lt g hg).2
        simp at hb
        omega
    · rw [y] at hg; injection hg with hg
      rcases h2.where_ with z | z
      · rw [z] at hb
        have := (OwnR.blocks h.row g hb).2
        omega
      · rw [z] at hb; injection hb with hb
        have := (h1.own.lt g (by rw [y, hg])).2
        simp at hb
        omega
  · rcases List.mem_append.1 hp with hp | hp
    · exact h.each p hp
    · rw [List.mem_singleton.1 hp]; exact hq
  · have b1 := below_of_only h.bel h1.only h.bel.size (fun x hx => (h.own.lt x hx).1)
    have b2 := below_alloc b1 o
    exact below_of_only b2 h2.only b2.size (fun x hx => (OwnR.blocks h.row x hx).1)
def BackRel (w : World) (L : List AE) (v u i : Value) (wr : World) : Prop :=
  ∃ (k n c d : Nat) (A B : Option Addr) (E : List AE), k ≤ L.length ∧ k ≤ 61 ∧ i = .int .i64 k ∧ v = .slice A n c ∧ u = .slice B E.length d ∧ BackI w wr A B n c d k E
end Go.Proofs.YtijjnpegokfidaaDoor
namespace Go.Proofs.YtijjnpegokfidaaDoor
open Go.RowKit
open Pa
set_option linter.unusedVariables false
set_option linter.unusedSimpArgs false

set_option maxRecDepth 100000 in
set_option maxHeartbeats 2000000 in
theorem backl_any (A0 : Option Addr) (n0 c0 : Nat) (L : List AE) (w : World) (hn : n0 = L.length) (hL : L.length ≤ 9223372036854775807) (hc : CameL w A0 L) (hP : Pow w) :
    Calls Tryd.prog 4 #[.slice A0 n0 c0] w fun e w' => e = .returned (.bool true) ∧ Below w.heap.size w w' := by
  subst hn
  have HC := Lib.hid hc
  have HP := Lib.hid hP
  clear hc hP
  go_enter Tryd.func4, Tryd.ntmps4
  go_wp2_with fail
  go_loopw [3, 4, 11] (fun v u i wr => BackRel w L v u i wr) (fun _ _ i _ => 62 - (intOf i).toNat)
  case atStart => exact ⟨0, 0, 0, 0, none, none, [], Nat.zero_le _, by omega, rfl, rfl, rfl, ⟨rfl, OwnI.nil _ _ _ _, OwnR.nil _ _ _ _, Apart.none _, (fun _ h => by cases h), Nat.le_refl _, Below.refl _ _⟩⟩
  case round =>
    obtain ⟨k, n, c, d, A, B, E, hk, hk61, rfl, rfl, rfl, hbk⟩ := hrel
    have hbd := hbk.short
    have hfew := hbk.few
    have HB := Lib.hid hbk
    clear hbk
    by_cases hlt : k < L.length
    · obtain ⟨⟨t, p1, x1⟩, hq⟩ : ∃ q, L[k]? = some q := ⟨_, List.getElem?_eq_getElem hlt⟩
      have hqm := List.mem_of_getElem? hq
      obtain ⟨P, X, pc, xc, e1, e2, hcm⟩ := HC.out.each _ hqm
      have hln := HC.out.lens _ hqm
      simp only [] at e1 e2 hcm hln
      subst e1 e2
      obtain ⟨b1, o1, rfl, hc1⟩ := (HC.out.rd.under HB.out.bel).cells k _ hq
      have u0 : wr.cell? ⟨b1, o1 + k * 6, none⟩ = some (.int .i64 t.kind) := hc1 0 (by omega) _ rfl
      have u1 : wr.cell? ⟨b1, o1 + k * 6 + 1, none⟩ = some (.int .i32 t.rune) := hc1 1 (by omega) _ rfl
      have u2 : wr.cell? ⟨b1, o1 + k * 6 + 2, none⟩ = some (.int .u8 t.mark) := hc1 2 (by omega) _ rfl
      have u3 : wr.cell? ⟨b1, o1 + k * 6 + 3, none⟩ = some (.int .u8 t.final) := hc1 3 (by omega) _ rfl
      have u4 : wr.cell? ⟨b1, o1 + k * 6 + 4, none⟩ = some (.slice P t.params.length pc) := hc1 4 (by omega) _ rfl
      have u5 : wr.cell? ⟨b1, o1 + k * 6 + 5, none⟩ = some (.slice X t.text.length xc) := hc1 5 (by omega) _ rfl
      have i1 : decide (k < L.length) = true := decide_eq_true hlt
      have i2 : (k : Int) < (L.length : Int) := by omega
      have hll1 := hln.1
      have hll2 := hln.2
      have HCM := Lib.hid hcm
      have hba : ∀ o : Obj, BackI w (wr.alloc o) A B n c d k E := fun o => HB.out.under (below_alloc (Below.refl _ _) o)
      have HBA := Lib.hid hba
      clear hc1 hq hqm hcm hln hba
      by_cases g1 : k ≤ 60
      case neg =>
        have t1 : decide ((60 : Int) < (k : Int)) = true := decide_eq_true (by omega)
        have hbi := HBA.out (.cells #[.int .i64 t.kind, .int .i32 t.rune, .int .u8 t.mark, .int .u8 t.final, .slice P t.params.length pc, .slice X t.text.length xc] 25)
        have HBI := Lib.hid hbi
        clear hbi
        go_wp2_with fail
        refine (pfixed_any _).mono ?_
        rintro e w5 ⟨rfl, hb5⟩
        have hi5 := HBI.out.under hb5
        have hbd5 := hi5.short
        have hfew5 := hi5.few
        have HI5 := Lib.hid hi5
        clear hb5 hi5
        go_wp2_with fail
        refine (acts_any A n c ((E.map (·.1)).flatMap layB) w5 HI5.out.len (by have h := HI5.out.own; rw [HI5.out.len] at h; exact h.read) HI5.out.byte (by rw [← HI5.out.len]; omega)).mono ?_
        rintro e w6 ⟨A6, c6, M, rfl, hM, hAM, hb6⟩
        have hi6 := HI5.out.under hb6
        have hmap : M.map (·.1) = E.map (·.1) := by
          rw [hM]
          exact (acts_lays (E.map (·.1)) (fun a ha => by
            obtain ⟨q, hq, rfl⟩ := List.mem_map.1 ha
            exact (HI5.out.each q hq).1)).1
        have hml : E.length = M.length := by have := congrArg List.length hmap; simpa using this.symm
        have hokM : ∀ q ∈ M, q.1.params.length ≤ 1000000 ∧ q.1.text.length ≤ 1000000 := fun q hq => by
          have h1 : q.1 ∈ E.map (·.1) := by rw [← hmap]; exact List.mem_map_of_mem hq
          obtain ⟨p, hp, h2⟩ := List.mem_map.1 h1
          have h3 := (HI5.out.each p hp).1.small
          rw [h2] at h3
          omega
        have HMAP := Lib.hid hmap
        have HML := Lib.hid hml
        have HOKM := Lib.hid hokM
        have HRM := Lib.hid (hAM.rd rfl)
        have HI6 := Lib.hid hi6
        have hmb : M.length ≤ 1000000 := by omega
        clear hM hAM hb6 hi6 hmap hml hokM
        go_wp2_with fail
        refine (sameA_true A6 B M.length E.length c6 d M E w6 rfl HML.out HRM.out HI6.out.rd HMAP.out HOKM.out hmb).mono ?_
        rintro e w7 ⟨rfl, hb7⟩
        have hfin := HI6.out.bel.trans (hb7.mono HI6.out.bel.size)
        have HFIN := Lib.hid hfin
        clear hb7 hfin
        go_wp2_with fail
        go_ret
        exact ⟨rfl, HFIN.out⟩
      have t1 : decide ((60 : Int) < (k : Int)) = false := decide_eq_false (by omega)
      by_cases g2 : t.params.length ≤ 1000
      case neg =>
        have t2 : decide ((1000 : Int) < ((t.params.length : Nat) : Int)) = true := decide_eq_true (by omega)
        have hbi := HBA.out (.cells #[.int .i64 t.kind, .int .i32 t.rune, .int .u8 t.mark, .int .u8 t.final, .slice P t.params.length pc, .slice X t.text.length xc] 25)
        have HBI := Lib.hid hbi
        clear hbi
        go_wp2_with fail
        refine (pfixed_any _).mono ?_
        rintro e w5 ⟨rfl, hb5⟩
        have hi5 := HBI.out.under hb5
        have hbd5 := hi5.short
        have hfew5 := hi5.few
        have HI5 := Lib.hid hi5
        clear hb5 hi5
        go_wp2_with fail
        refine (acts_any A n c ((E.map (·.1)).flatMap layB) w5 HI5.out.len (by have h := HI5.out.own; rw [HI5.out.len] at h; exact h.read) HI5.out.byte (by rw [← HI5.out.len]; omega)).mono ?_
        rintro e w6 ⟨A6, c6, M, rfl, hM, hAM, hb6⟩
        have hi6 := HI5.out.under hb6
        have hmap : M.map (·.1) = E.map (·.1) := by
          rw [hM]
          exact (acts_lays (E.map (·.1)) (fun a ha => by
            obtain ⟨q, hq, rfl⟩ := List.mem_map.1 ha
            exact (HI5.out.each q hq).1)).1
        have hml : E.length = M.length := by have := congrArg List.length hmap; simpa using this.symm
        have hokM : ∀ q ∈ M, q.1.params.length ≤ 1000000 ∧ q.1.text.length ≤ 1000000 := fun q hq => by
          have h1 : q.1 ∈ E.map (·.1) := by rw [← hmap]; exact List.mem_map_of_mem hq
          obtain ⟨p, hp, h2⟩ := List.mem_map.1 h1
          have h3 := (HI5.out.each p hp).1.small
          rw [h2] at h3
          omega
        have HMAP := Lib.hid hmap
        have HML := Lib.hid hml
        have HOKM := Lib.hid hokM
        have HRM := Lib.hid (hAM.rd rfl)
        have HI6 := Lib.hid hi6
        have hmb : M.length ≤ 1000000 := by omega
        clear hM hAM hb6 hi6 hmap hml hokM
        go_wp2_with fail
        refine (sameA_true A6 B M.length E.length c6 d M E w6 rfl HML.out HRM.out HI6.out.rd HMAP.out HOKM.out hmb).mono ?_
        rintro e w7 ⟨rfl, hb7⟩
        have hfin := HI6.out.bel.trans (hb7.mono HI6.out.bel.size)
        have HFIN := Lib.hid hfin
        clear hb7 hfin
        go_wp2_with fail
        go_ret
        exact ⟨rfl, HFIN.out⟩
      have t2 : decide ((1000 : Int) < ((t.params.length : Nat) : Int)) = false := decide_eq_false (by omega)
      by_cases g3 : t.text.length ≤ 16384
      case neg =>
        have t3 : decide ((16384 : Int) < ((t.text.length : Nat) : Int)) = true := decide_eq_true (by omega)
        have hbi := HBA.out (.cells #[.int .i64 t.kind, .int .i32 t.rune, .int .u8 t.mark, .int .u8 t.final, .slice P t.params.length pc, .slice X t.text.length xc] 25)
        have HBI := Lib.hid hbi
        clear hbi
        go_wp2_with fail
        refine (pfixed_any _).mono ?_
        rintro e w5 ⟨rfl, hb5⟩
        have hi5 := HBI.out.under hb5
        have hbd5 := hi5.short
        have hfew5 := hi5.few
        have HI5 := Lib.hid hi5
        clear hb5 hi5
        go_wp2_with fail
        refine (acts_any A n c ((E.map (·.1)).flatMap layB) w5 HI5.out.len (by have h := HI5.out.own; rw [HI5.out.len] at h; exact h.read) HI5.out.byte (by rw [← HI5.out.len]; omega)).mono ?_
        rintro e w6 ⟨A6, c6, M, rfl, hM, hAM, hb6⟩
        have hi6 := HI5.out.under hb6
        have hmap : M.map (·.1) = E.map (·.1) := by
          rw [hM]
          exact (acts_lays (E.map (·.1)) (fun a ha => by
            obtain ⟨q, hq, rfl⟩ := List.mem_map.1 ha
            exact (HI5.out.each q hq).1)).1
        have hml : E.length = M.length := by have := congrArg List.length hmap; simpa using this.symm
        have hokM : ∀ q ∈ M, q.1.params.length ≤ 1000000 ∧ q.1.text.length ≤ 1000000 := fun q hq => by
          have h1 : q.1 ∈ E.map (·.1) := by rw [← hmap]; exact List.mem_map_of_mem hq
          obtain ⟨p, hp, h2⟩ := List.mem_map.1 h1
          have h3 := (HI5.out.each p hp).1.small
          rw [h2] at h3
          omega
        have HMAP := Lib.hid hmap
        have HML := Lib.hid hml
        have HOKM := Lib.hid hokM
        have HRM := Lib.hid (hAM.rd rfl)
        have HI6 := Lib.hid hi6
        have hmb : M.length ≤ 1000000 := by omega
        clear hM hAM hb6 hi6 hmap hml hokM
        go_wp2_with fail
        refine (sameA_true A6 B M.length E.length c6 d M E w6 rfl HML.out HRM.out HI6.out.rd HMAP.out HOKM.out hmb).mono ?_
        rintro e w7 ⟨rfl, hb7⟩
        have hfin := HI6.out.bel.trans (hb7.mono HI6.out.bel.size)
        have HFIN := Lib.hid hfin
        clear hb7 hfin
        go_wp2_with fail
        go_ret
        exact ⟨rfl, HFIN.out⟩
      have t3 : decide ((16384 : Int) < ((t.text.length : Nat) : Int)) = false := decide_eq_false (by omega)
      have hf := HCM.out.fits g2 g3
      have hb3 := below_alloc (Below.refl wr.heap.size wr) (.cells #[.int .i64 t.kind, .int .i32 t.rune, .int .u8 t.mark, .int .u8 t.final, .slice P t.params.length pc, .slice X t.text.length xc] 25)
      have HF := Lib.hid hf
      have HB3 := Lib.hid hb3
      clear hf hb3
      go_wp2_with fail
      refine (lay_any t P X pc xc _ HF.out ((HP.out.under HB.out.bel).under HB3.out) ((HCM.out.par.under HB.out.bel).under HB3.out) ((HCM.out.txt.under HB.out.bel).under HB3.out)).mono ?_
      intro e w4 he
      have hb4 := he.below
      have hi4 := (HBA.out (.cells #[.int .i64 t.kind, .int .i32 t.rune, .int .u8 t.mark, .int .u8 t.final, .slice P t.params.length pc, .slice X t.text.length xc] 25)).under hb4
      have hk4 := (Blk.new wr 25 #[.int .i64 t.kind, .int .i32 t.rune, .int .u8 t.mark, .int .u8 t.final, .slice P t.params.length pc, .slice X t.text.length xc]).under hb4
      have hz4 : wr.heap.size < w4.heap.size := hk4.lt
      rcases he with ⟨hok, A1, c1, rfl, hr, _⟩ | ⟨_, rfl, _⟩
      · have HI4 := Lib.hid hi4
        have HK4 := Lib.hid hk4
        have HOK := Lib.hid hok
        have HR := Lib.hid hr
        have hl3 := layB_len t hok
        clear hb4 hi4 hk4 hok hr
        go_wp2_with (at_builtin; first
          | (refine wpList_append_to _ rfl (.tmp 37) (.tmp 38) 23 5 .u8 1 rfl Tryd.underlying23 (by kernel_rfl) (by omega) w.heap.size (.slice A n c) _ rfl HI4.out.own A1 c1 _ (layB t) rfl HR.out rfl (n + (layB t).length) _ rfl (by rw [← HI4.out.len]) (by omega) HI4.out.bel.size ?_; intro A2 c2 w5 hap; have HAP := Lib.hid hap; have hk5 := HK4.out.grown hap.only (fun x => by have := (HB.out.own.lt wr.heap.size x.symm).2; omega); have HK5 := Lib.hid hk5; have y0 : w5.cell? ⟨wr.heap.size, 0, none⟩ = some (.int .i64 t.kind) := HK5.out.cell 0; have y1 : w5.cell? ⟨wr.heap.size, 1, none⟩ = some (.int .i32 t.rune) := HK5.out.cell 1; have y2 : w5.cell? ⟨wr.heap.size, 2, none⟩ = some (.int .u8 t.mark) := HK5.out.cell 2; have y3 : w5.cell? ⟨wr.heap.size, 3, none⟩ = some (.int .u8 t.final) := HK5.out.cell 3; have y4 : w5.cell? ⟨wr.heap.size, 4, none⟩ = some (.slice P t.params.length pc) := HK5.out.cell 4; have y5 : w5.cell? ⟨wr.heap.size, 5, none⟩ = some (.slice X t.text.length xc) := HK5.out.cell 5; have hz5 : w.heap.size ≤ w5.heap.size := Nat.le_trans HI4.out.bel.size hap.only.size; have hrow5 := (Keeps.grown hap.only (S := fun g => (Value.slice A n c).ownBlock = some g) (fun g h => h)).row HI4.out.row (fun g hg hs => HI4.out.apart g hs hg); have HROW5 := Lib.hid hrow5; clear hap hk5 hrow5)
          | (refine wpList_append_cells _ rfl (.tmp 40) (.tmp 42) 35 25 6 64 rfl Tryd.underlying35 (by kernel_rfl) (by omega) (by omega) w.heap.size (.slice B E.length d) E.length (E.flatMap acell) rfl (OwnR.under HROW5.out (below_alloc (Below.refl _ _) _)) (some ⟨w5.heap.size, 0, none⟩) 1 1 (acell (t, .slice P t.params.length pc, .slice X t.text.length xc)) rfl (Blk.read (Blk.new _ _ _)) rfl (oneCell_act (t, .slice P t.params.length pc, .slice X t.text.length xc) ⟨_, _, _, rfl⟩ ⟨_, _, _, rfl⟩) (E.length + 1) rfl _ rfl (by omega) (by simp; omega) ?_; intro A3 c3 w6 hap2; have HAP2 := Lib.hid hap2; clear hap2))
        have hnx := HI4.out.keep (t, .slice P t.params.length pc, .slice X t.text.length xc) ⟨HOK.out, HCM.out.mark, HCM.out.final, HCM.out.text, P, X, pc, xc, rfl, rfl, HCM.out.par, HCM.out.txt⟩ HAP.out rfl _ (by
          have h := HAP2.out
          rw [List.flatMap_append]
          simp only [List.flatMap_cons, List.flatMap_nil, List.append_nil]
          exact h)
        have HNX := Lib.hid hnx
        clear hnx
        go_wp2_with fail
        go_roundw
        case rel => exact ⟨k + 1, n + (layB t).length, c2, c3, A2, A3, E ++ [(t, .slice P t.params.length pc, .slice X t.text.length xc)], by omega, by omega, by go_num, rfl, by simp, HNX.out⟩
        case measure => simp [intOf]; omega
      · have HI4 := Lib.hid hi4.more
        clear hb4 hi4 hk4
        go_wp2_with fail
        go_roundw
        case rel => exact ⟨k + 1, n, c, d, A, B, E, by omega, by omega, by go_num, rfl, rfl, HI4.out⟩
        case measure => simp [intOf]; omega
    · obtain rfl : k = L.length := by omega
      have i1 : decide (L.length < L.length) = false := decide_eq_false (by omega)
      have hbi := HB.out
      have HBI := Lib.hid hbi
      clear hbi
      go_wp2_with fail
      refine (pfixed_any _).mono ?_
      rintro e w5 ⟨rfl, hb5⟩
      have hi5 := HBI.out.under hb5
      have hbd5 := hi5.short
      have hfew5 := hi5.few
      have HI5 := Lib.hid hi5
      clear hb5 hi5
      go_wp2_with fail
      refine (acts_any A n c ((E.map (·.1)).flatMap layB) w5 HI5.out.len (by have h := HI5.out.own; rw [HI5.out.len] at h; exact h.read) HI5.out.byte (by rw [← HI5.out.len]; omega)).mono ?_
      rintro e w6 ⟨A6, c6, M, rfl, hM, hAM, hb6⟩
      have hi6 := HI5.out.under hb6
      have hmap : M.map (·.1) = E.map (·.1) := by
        rw [hM]
        exact (acts_lays (E.map (·.1)) (fun a ha => by
          obtain ⟨q, hq, rfl⟩ := List.mem_map.1 ha
          exact (HI5.out.each q hq).1)).1
      have hml : E.length = M.length := by have := congrArg List.length hmap; simpa using this.symm
      have hokM : ∀ q ∈ M, q.1.params.length ≤ 1000000 ∧ q.1.text.length ≤ 1000000 := fun q hq => by
        have h1 : q.1 ∈ E.map (·.1) := by rw [← hmap]; exact List.mem_map_of_mem hq
        obtain ⟨p, hp, h2⟩ := List.mem_map.1 h1
        have h3 := (HI5.out.each p hp).1.small
        rw [h2] at h3
        omega
      have HMAP := Lib.hid hmap
      have HML := Lib.hid hml
      have HOKM := Lib.hid hokM
      have HRM := Lib.hid (hAM.rd rfl)
      have HI6 := Lib.hid hi6
      have hmb : M.length ≤ 1000000 := by omega
      clear hM hAM hb6 hi6 hmap hml hokM
      go_wp2_with fail
      refine (sameA_true A6 B M.length E.length c6 d M E w6 rfl HML.out HRM.out HI6.out.rd HMAP.out HOKM.out hmb).mono ?_
      rintro e w7 ⟨rfl, hb7⟩
      have hfin := HI6.out.bel.trans (hb7.mono HI6.out.bel.size)
      have HFIN := Lib.hid hfin
      clear hb7 hfin
      go_wp2_with fail
      go_ret
      exact ⟨rfl, HFIN.out⟩
end Go.Proofs.YtijjnpegokfidaaDoor
