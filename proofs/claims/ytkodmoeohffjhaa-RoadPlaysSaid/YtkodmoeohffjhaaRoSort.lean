/- The sort of the road's mails: the comparison's walk, slices.SortFunc at mails. -/
import Derived.Test.YtkodmoeohffjhaaShelfR
import Derived.Test.YtkodmoeohffjhaaRoUp
namespace Go.Proofs.Ytkodmoeohffjhaa
open Go.RowKit Go.Proofs.Ytkodmoeohffjhaa.Hp Go.Sort
set_option linter.unusedVariables false
set_option linter.unusedSimpArgs false

theorem two_grow (w : World) (a b : Obj) : (w.alloc a).alloc b = Go.Sort.grow (w.drewN 0) #[a, b] := by rw [alloc_eq_grow, alloc_eq_grow, grow_grow]; rfl
set_option maxRecDepth 100000 in
theorem ahead_grow (p q : ME) (w : World) : Calls Try.prog 40 #[mailV p, mailV q] w fun e w' => e = .returned (.bool (aheadB p.1 q.1)) ∧ ∃ os', w' = Go.Sort.grow (w.drewN 0) os' := by
  obtain ⟨⟨d1, n1, a1, o1, b1⟩, v1⟩ := p
  obtain ⟨⟨d2, n2, a2, o2, b2⟩, v2⟩ := q
  obtain ⟨r, hr⟩ : ∃ r : Bool, r = aheadB ⟨d1, n1, a1, o1, b1⟩ ⟨d2, n2, a2, o2, b2⟩ := ⟨_, rfl⟩
  simp only
  rw [← hr]
  have HR := Lib.hid hr
  clear hr
  rcases Int.lt_trichotomy d1 d2 with h | h | h
  · have t1 : decide (d1 < d2) = true := decide_eq_true h
    have hv : r = true := by rw [HR.out]; unfold aheadB; simp [h]
    have HV := Lib.hid hv
    clear h hv
    go_enter Try.func40, Try.ntmps40
    go_wp2_with fail
    go_ret
    first | exact ⟨by rw [HV.out]; rfl, _, two_grow _ _ _⟩ | exact ⟨by rw [HV.out], _, two_grow _ _ _⟩
  · have t1 : decide (d1 < d2) = false := decide_eq_false (by omega)
    have t2 : (d1 == d2) = true := by simp [h]
    have hv : r = decide (n1 < n2) := by rw [HR.out]; unfold aheadB; simp [h]
    have HV := Lib.hid hv
    clear h hv
    go_enter Try.func40, Try.ntmps40
    go_wp2_with fail
    go_ret
    first | exact ⟨by rw [HV.out]; rfl, _, two_grow _ _ _⟩ | exact ⟨by rw [HV.out], _, two_grow _ _ _⟩
  · have t1 : decide (d1 < d2) = false := decide_eq_false (by omega)
    have t2 : (d1 == d2) = false := by rw [beq_eq_false_iff_ne]; omega
    have hv : r = false := by rw [HR.out]; unfold aheadB; rw [t1, t2]; rfl
    have HV := Lib.hid hv
    clear h hv
    go_enter Try.func40, Try.ntmps40
    go_wp2_with fail
    go_ret
    first | exact ⟨by rw [HV.out]; rfl, _, two_grow _ _ _⟩ | exact ⟨by rw [HV.out], _, two_grow _ _ _⟩
/-- What the comparison answers. -/
def rcf (a b : ME) : Int := if mlt a b = true then -1 else 1
theorem rcf_lt : Go.Proofs.ltOf rcf = mlt := by
  funext a b
  unfold Go.Proofs.ltOf rcf
  cases mlt a b <;> simp
theorem rcf_swo : SWO (Go.Proofs.ltOf rcf) := by
  rw [rcf_lt]
  refine ⟨fun a => ?_, fun a b c h1 h2 => ?_, fun a b c h1 h2 => ?_⟩
  · rw [nahead_iff]; omega
  · rw [ahead_iff] at *; omega
  · rw [nahead_iff] at *; omega
set_option maxRecDepth 100000 in
theorem cmp_any (p q : ME) (w : World) : Calls Try.prog 39 #[mailV p, mailV q] w fun e w' => e = .returned (.int .i64 (rcf p q)) ∧ ∃ n os', w' = Go.Sort.grow (w.drewN n) os' := by
  have hA := fun W => ahead_grow p q W
  cases hr : aheadB p.1 q.1
  · have hv : rcf p q = 1 := by unfold rcf mlt; rw [hr]; rfl
    rw [hv]
    rw [hr] at hA
    clear hv hr
    go_enter Try.func39, Try.ntmps39
    go_wp2_with (go_at_call 40; refine (hA _).mono ?_; rintro e w1 ⟨rfl, os1, rfl⟩)
    go_ret
    exact ⟨rfl, 0, _, by rw [two_grow]; exact grow_grow _ _ _⟩
  · have hv : rcf p q = -1 := by unfold rcf mlt; rw [hr]; rfl
    rw [hv]
    rw [hr] at hA
    clear hv hr
    go_enter Try.func39, Try.ntmps39
    go_wp2_with (go_at_call 40; refine (hA _).mono ?_; rintro e w1 ⟨rfl, os1, rfl⟩)
    go_ret
    exact ⟨rfl, 0, _, by rw [two_grow]; exact grow_grow _ _ _⟩
/-- A row of mails as the kit's sort holds it. -/
theorem holds_of_own {w : World} {base g n c : Nat} {L : List ME} (h : OwnR w base 71 5 (.slice (some ⟨g, 0, none⟩) n c) L.length (L.flatMap mcell)) : HoldsK mcell 5 w g 0 L.toArray := fun j hj => by
  rw [size_flatK] at hj
  simp only [List.size_toArray] at hj
  have hi : j / 5 < L.length := by omega
  have e1 : L[j / 5]? = some L[j / 5] := List.getElem?_eq_getElem hi
  have h1 := mcell_at L (j / 5) L[j / 5] e1 (j % 5) (by omega)
  have e2 : j / 5 * 5 + j % 5 = j := by omega
  rw [e2] at h1
  have hl5 : ∀ q : ME, (mcell q).length = 5 := fun _ => rfl
  have hj5 : j % 5 < (mcell L[j / 5]).length := by rw [hl5]; exact Nat.mod_lt _ (by omega)
  obtain ⟨u, hu⟩ : ∃ u, (mcell L[j / 5])[j % 5]? = some u := ⟨_, List.getElem?_eq_getElem hj5⟩
  rw [get_flatK _ _ _ j (by simpa using hj)]
  have e3 : (mcell (L.toArray)[j / 5]!)[j % 5]! = u := by
    have : (L.toArray)[j / 5]! = L[j / 5] := by simp [hi]
    rw [this, List.getElem!_eq_getElem?_getD, hu]
    rfl
  rw [e3]
  refine ⟨?_, ?_⟩
  · rw [Nat.zero_add]
    exact OwnR.cell h j u (by rw [h1]; exact hu)
  · rw [Nat.zero_add]
    exact OwnR.frozen h j
theorem keeps_sortWorld {w : World} {g n : Nat} {d : Array ME} {os : Array Obj} : Keeps (fun b => b = g) w (Go.Proofs.sortWorldK mcell 5 w g 0 n d os) := by
  refine ⟨rfl, rfl, rfl, ?_, fun i hi hne => ?_⟩
  · simp [Go.Proofs.sortWorldK, grow, putRowK, putRow, mapBlock, Sort.ahead]
  · simp [Go.Proofs.sortWorldK, grow, putRowK, putRow, mapBlock, Sort.ahead, Array.getElem?_append, hi, Array.getElem?_modify]
    rw [Array.getElem_modify, if_neg (fun e => hne e.symm)]
/-- What slices.SortFunc leaves of a row of mails of the call's own. -/
structure Sorted (w : World) (g : Nat) (L D : List ME) (w' : World) : Prop where
  perm : D.Perm L
  sort : D.Pairwise (fun a b => mlt b a = false)
  keeps : Keeps (fun b => b = g) w w'
  cell : ∀ i q, D[i]? = some q → ∀ j u, (mcell q)[j]? = some u → w'.cell? ⟨g, i * 5 + j, none⟩ = some u
theorem sorted_of {w : World} {base g n c m : Nat} {L : List ME} {d : Array ME} {os : Array Obj} (h : OwnR w base 71 5 (.slice (some ⟨g, 0, none⟩) n c) L.length (L.flatMap mcell)) (hlt : g < w.heap.size)
    (hp : PermIn 0 L.toArray.size L.toArray d) (hs : SortedIn mlt 0 L.toArray.size d) : Sorted w g L d.toList (Go.Proofs.sortWorldK mcell 5 w g 0 m d os) := by
  obtain ⟨hz, _, hpm⟩ := hp
  have hpm' : d.toList.Perm L := by
    have e1 : d.extract 0 L.toArray.size = d := by rw [← hz]; simp
    have e2 : L.toArray.extract 0 L.toArray.size = L.toArray := by simp
    rw [e1, e2] at hpm
    simpa using hpm
  refine ⟨hpm', ?_, keeps_sortWorld, fun i q hq j u hu => ?_⟩
  · rw [List.pairwise_iff_getElem]
    intro i j hi hj hij
    have := hs i j (Nat.zero_le _) hij (by rw [← hz]; simpa using hj)
    simp at hi hj
    rw [getElem!_pos d i hi, getElem!_pos d j hj] at this
    simpa using this
  · have hH : HoldsK mcell 5 (Go.Proofs.sortWorldK mcell 5 w g 0 m d os) g 0 d := by
      refine holdsK_grow mcell 5 _ os g 0 d ?_ (holdsK_putRowK mcell 5 _ g 0 L.toArray d (holdsK_ahead mcell 5 w m g 0 _ (holds_of_own h)) hz)
      simpa [putRowK, putRow, mapBlock, Sort.ahead] using hlt
    have hi : i < d.size := by
      rcases Nat.lt_or_ge i d.size with h | h
      · exact h
      · rw [List.getElem?_eq_none (by simpa using h)] at hq; cases hq
    have hj : j < 5 := by
      rcases Nat.lt_or_ge j 5 with h | h
      · exact h
      · rw [List.getElem?_eq_none (by simp [mcell]; omega)] at hu; cases hu
    have := (HoldsK.cell hH hi hj).1
    rw [Nat.zero_add] at this
    rw [this, getElem!_pos d i hi]
    have e : d[i] = q := by
      have := List.getElem?_eq_getElem (l := d.toList) (i := i) (by simpa using hi)
      rw [this] at hq
      simpa using Option.some.inj hq
    rw [e, List.getElem!_eq_getElem?_getD, hu]
    rfl
set_option maxHeartbeats 2000000 in
set_option maxRecDepth 100000 in
theorem sortfunc_any (base g n c : Nat) (L : List ME) (w : World) (h : OwnR w base 71 5 (.slice (some ⟨g, 0, none⟩) n c) L.length (L.flatMap mcell)) (hn : n = L.length) (hlt : g < w.heap.size) (hm : L.length < 1000000) :
    Calls Try.prog 38 #[.slice (some ⟨g, 0, none⟩) n c, .func (.func 39) #[] #[]] w fun e w' => e = .returned (.tuple #[]) ∧ ∃ D, Sorted w g L D w' := by
  have eg : ∀ args w, (callFunc 39 args).run Try.prog w = .ok (.enter 39 args) w := enters_of Try.func39 (by kernel_rfl) rfl
  have hz : L.toArray.size = n := by rw [hn]; simp
  have hc : CmpLays Try.prog 39 #[] mcell 5 rcf g 0 L.toArray.size w := fun _ _ _ _ x y => cmp_any x y _
  have hH := holds_of_own h
  have hlim : Lib.bitLen L.toArray.size < 4611686018427387904 := Nat.lt_of_le_of_lt (Lib.bitLen_le L.toArray.size 62 (by omega) (by simp; omega)) (by omega)
  have hp := AnyQ.pdqsortCmpFunc_all (P := Try.prog) (ρ := Try.pdqM_ren) Try.pdqM 5 Try.isAgg71 Try.sizeOf71 mcell rcf 39 #[] rcf_swo g 0 c L.toArray w eg hc ⟨fun _ => rfl, fun x u hu => by simp [mcell] at hu; rcases hu with rfl | rfl | rfl | rfl | rfl <;> rfl, hH, hlt⟩ (L.toArray.size + 1) 0 L.toArray.size (Lib.bitLen L.toArray.size) L.toArray w (by omega) rfl (SWK.start hH) (Nat.zero_le _) (Nat.le_refl _) (by simp; omega) hlim (Or.inl rfl)
  have hs := pdq_sorts (Go.Proofs.ltOf rcf) rcf_swo L.toArray 0 L.toArray.size (Lib.bitLen L.toArray.size) true true (Nat.zero_le _) (Nat.le_refl _) (Or.inl rfl)
  have hl : Calls Try.prog 46 #[.int .u64 (n : Int)] w fun e w' => e = .returned (.int .i64 (Lib.bitLen n : Nat)) ∧ w' = w := by
    have h := Any.bits_Len Try.lays125 (n : Int) w (by omega) (by omega)
    rwa [Int.toNat_natCast] at h
  have wr : IntKind.u64.wrap (n : Int) = n := by simp [IntKind.wrap, IntKind.bits, IntKind.signed]; omega
  rw [hz] at hp
  change Calls Try.prog 45 _ _ _ at hp
  have HS := Lib.hid (fun (m : Nat) (os : Array Obj) => sorted_of (m := m) (os := os) h hlt hs.1 (rcf_lt ▸ hs.2))
  rw [hz] at HS
  clear hs hc hH hz hlim h hn
  go_enter Try.func38, Try.ntmps38
  go_wp2_with (first | (go_at_call 46; refine hl.mono ?_; rintro e w' ⟨rfl, rfl⟩) | (go_at_call 45; refine hp.mono ?_; rintro e w' ⟨rfl, m, os, rfl⟩))
  go_end0
  exact ⟨rfl, _, HS.out m os⟩
end Go.Proofs.Ytkodmoeohffjhaa
