/- Texts of this claim, merged by a program of this claim: DiffM1. -/
import Derived.Test.YtnomaidopdgdbaaGreatDoorMm12
import Derived.Test.YtnomaidopdgdbaaGreatDoorMm13
import Derived.Test.YtnomaidopdgdbaaGreatDoorMm7
namespace Go.Proofs.YtnomaidopdgdbaaGreatDoor
set_option linter.unusedVariables false
set_option linter.unusedSimpArgs false
section
open Go.RowKit
set_option maxRecDepth 100000
set_option maxHeartbeats 4000000
structure CWf (c : CD) : Prop where
  rune : -2147483648 ≤ c.rune ∧ c.rune ≤ 2147483647
  wide : 0 ≤ c.wide ∧ c.wide < 256
  fg : 0 ≤ c.fg ∧ c.fg < 4294967296
  bg : 0 ≤ c.bg ∧ c.bg < 4294967296
  attrs : 0 ≤ c.attrs ∧ c.attrs < 256
  link : 0 ≤ c.link ∧ c.link < 65536
theorem str_ints (t : ByteArray) : intsStr (strInts t) = t := by
  have : ∀ x : ByteArray, intsStr (x.data.toList.map fun b => (b.toNat : Int)) = x := fun x => by
    unfold intsStr
    rw [List.map_map]
    have e : ((fun n : Int => UInt8.ofNat n.toNat) ∘ fun b : UInt8 => (b.toNat : Int)) = id := by
      funext b
      simp
    rw [e]
    simp
  exact this t
theorem ints_byte (t : ByteArray) : ∀ b ∈ strInts t, Utf.Byte b := fun b hb => by
  obtain ⟨x, _, rfl⟩ := List.mem_map.1 hb
  have := x.toNat_lt
  exact ⟨by omega, by omega⟩
def titleB (t : ByteArray) : Bool := Utf.vB (strInts t) && (List.range (Utf.runes (strInts t)).length).all (fun i => Utf.width ((Utf.runes (strInts t)).getD i 0) != 0)
theorem num_enc (r : Int) (hm : Utf.may r = true) : Utf.num (Utf.enc r) = r := by
  have he : Utf.enc r = Utf.enc1 r := by unfold Utf.enc; rw [if_pos hm]
  rw [he]
  rcases Utf.enc_cases r hm with ⟨a, e, h⟩ | ⟨a, b, e, h⟩ | ⟨a, b, d, e, h⟩ | ⟨a, b, d, c, e, h⟩
  · rw [e]
    show a = r
    omega
  · rw [e]
    show (a - 192) * 64 + b - 128 = r
    omega
  · rw [e]
    show (a - 224) * 4096 + (b - 128) * 64 + d - 128 = r
    omega
  · rw [e]
    show (a - 240) * 262144 + (b - 128) * 4096 + (d - 128) * 64 + c - 128 = r
    omega
theorem title_runes (t : ByteArray) (h : Utf.vB (strInts t) = true) : ∃ rs : List Int, rs = Utf.runes (strInts t) ∧ strInts t = rs.flatMap Utf.enc ∧ ∀ r ∈ rs, Utf.may r = true := by
  obtain ⟨qs, hq⟩ := Utf.encs_of_vB _ (strInts t) (Nat.le_refl _) h
  refine ⟨Utf.runes (strInts t), rfl, ?_, ?_⟩
  · rw [hq, Utf.runes_encs, Utf.flatMap_fix]
  · rw [hq, Utf.runes_encs]
    intro r hr
    obtain ⟨x, _, rfl⟩ := List.mem_map.1 hr
    exact Utf.fix_may x
theorem decode_rune (t : ByteArray) (rs : List Int) (h : strInts t = rs.flatMap Utf.enc) (hm : ∀ r ∈ rs, Utf.may r = true) {j : Nat} {u : Int} (hu : rs[j]? = some u) :
    ((rs.take j).flatMap Utf.enc).length < t.size ∧ (Utf8.decode t ((rs.take j).flatMap Utf.enc).length).2 + ((rs.take j).flatMap Utf.enc).length = ((rs.take (j + 1)).flatMap Utf.enc).length ∧ ((Utf8.decode t ((rs.take j).flatMap Utf.enc).length).1 : Int) = u := by
  have hj := (List.getElem?_eq_some_iff.1 hu).1
  have hsp : rs = rs.take j ++ u :: rs.drop (j + 1) := by
    have := List.take_append_drop j rs
    rw [List.drop_eq_getElem_cons hj] at this
    rw [show rs[j] = u from (List.getElem?_eq_some_iff.1 hu).2] at this
    exact this.symm
  have hbs : strInts t = (rs.take j).flatMap Utf.enc ++ (Utf.enc u ++ (rs.drop (j + 1)).flatMap Utf.enc) := by
    rw [h]
    conv => lhs; rw [hsp]
    simp [List.flatMap_append, List.flatMap_cons]
  obtain ⟨p, hp⟩ : ∃ p, p = ((rs.take j).flatMap Utf.enc).length := ⟨_, rfl⟩
  have hpos : 0 < (Utf.enc u).length := List.length_pos_iff.2 (Utf.enc_ne u)
  have hlen : (strInts t).length = t.size := ints_len t
  have hpl : p < (strInts t).length := by rw [hbs, List.length_append, List.length_append, ← hp]; omega
  have hd := Utf.decode_str (strInts t) (ints_byte t) p hpl
  have hdr : (strInts t).drop p = Utf.enc u ++ (rs.drop (j + 1)).flatMap Utf.enc := by rw [hbs, hp, List.drop_left]
  have hst : Utf.step ((strInts t).drop p) = (Utf.enc u).length := by
    rw [hdr]
    refine Utf.step_enc u _ fun x hx => ints_byte t x ?_
    rw [hbs]
    exact List.mem_append_right _ (List.mem_append_right _ hx)
  rw [str_ints, hst, if_neg (by omega), if_neg (by omega)] at hd
  rw [hdr, List.take_left, num_enc u (hm u (List.mem_of_getElem? hu))] at hd
  refine ⟨by rw [← hp]; omega, ?_, by rw [← hp]; exact hd.2⟩
  rw [← hp, hd.1, take_snoc_get' hu]
  simp [List.flatMap_append, ← hp]
  omega
where
  take_snoc_get' {rs : List Int} {j : Nat} {u : Int} (hu : rs[j]? = some u) : rs.take (j + 1) = rs.take j ++ [u] := by
    rw [List.take_add_one, hu]
    rfl
def rightB (k r : Int) (L : List CD) (x y mo : Int) (ti : ByteArray) (l : List ByteArray) : Bool :=
  gridB k r L && linksB L l && decide (0 ≤ x) && decide (x < k) && decide (0 ≤ y) && decide (y < r) && decide (mo ≤ 2) && decide (ti.size ≤ 64) && titleB ti
def mAt (M : List (List CD)) (i : Nat) : List CD := M.getD i []
theorem mAt_of {M : List (List CD)} {i : Nat} {l : List CD} (h : M[i]? = some l) : mAt M i = l := by simp [mAt, List.getD_eq_getElem?_getD, h]
structure Rect (M : List (List CD)) (k r : Nat) : Prop where
  len : M.length = r
  row : ∀ l ∈ M, l.length = k
theorem Rect.at_ {M : List (List CD)} {k r : Nat} (h : Rect M k r) {y : Nat} (hy : y < r) : (mAt M y).length = k ∧ mAt M y ∈ M := by
  have hy' : y < M.length := by rw [h.len]; exact hy
  have e := mAt_of (List.getElem?_eq_getElem hy')
  have hm : mAt M y ∈ M := by rw [e]; exact List.getElem_mem hy'
  exact ⟨h.row _ hm, hm⟩
end
end Go.Proofs.YtnomaidopdgdbaaGreatDoor
