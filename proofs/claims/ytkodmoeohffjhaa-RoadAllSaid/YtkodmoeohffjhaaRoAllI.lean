/- The law RoadAll: what came in, the head. -/
import Derived.Test.YtkodmoeohffjhaaRoAllT
namespace Go.Proofs.Ytkodmoeohffjhaa
open Go.RowKit Go.Proofs.Ytkodmoeohffjhaa.Hp
set_option linter.unusedVariables false
set_option linter.unusedSimpArgs false

/-- A mail that came in: behind, delay, bytes. -/
abbrev MI := Int × Int × List Int × Option Addr × Nat
def icell (q : MI) : List Value := [.int .i64 q.1, .int .i64 q.2.1, .slice q.2.2.2.1 q.2.2.1.length q.2.2.2.2]
theorem icell_len (L : List MI) : (L.flatMap icell).length = L.length * 3 := by
  induction L with
  | nil => rfl
  | cons q L ih => simp only [List.flatMap_cons, List.length_append, List.length_cons, ih, icell, List.length_nil]; omega
theorem icell_at : ∀ (L : List MI) (i : Nat) (q : MI), L[i]? = some q → ∀ j, j < 3 → (L.flatMap icell)[i * 3 + j]? = (icell q)[j]?
  | [], i, q, h, j, hj => by simp at h
  | p :: L, 0, q, h, j, hj => by
    simp at h
    subst h
    rw [List.flatMap_cons, Nat.zero_mul, Nat.zero_add, List.getElem?_append_left (by simp [icell]; omega)]
  | p :: L, i + 1, q, h, j, hj => by
    rw [List.flatMap_cons, List.getElem?_append_right (by simp [icell]; omega)]
    have : (i + 1) * 3 + j - (icell p).length = i * 3 + j := by simp [icell]; omega
    rw [this]
    exact icell_at L i q (by simpa using h) j hj
structure MailsR (w : World) (A : Option Addr) (L : List MI) : Prop where
  row : ReadC w A (L.flatMap icell)
  bytes : ∀ q ∈ L, ReadI w .u8 q.2.2.2.1 q.2.2.1 ∧ q.2.2.1.length ≤ 9223372036854775807
theorem MailsR.under {w w' : World} {A : Option Addr} {L : List MI} (h : MailsR w A L) (hb : Below w.heap.size w w') : MailsR w' A L := ⟨h.row.under hb, fun q hq => ⟨(h.bytes q hq).1.under hb, (h.bytes q hq).2⟩⟩
theorem MailsR.cells {w : World} {A : Option Addr} {L : List MI} {i : Nat} {q : MI} (h : MailsR w A L) (hq : L[i]? = some q) :
    ∃ b o, A = some ⟨b, o, none⟩ ∧ w.cell? ⟨b, o + i * 3, none⟩ = some (.int .i64 q.1) ∧ w.cell? ⟨b, o + i * 3 + 1, none⟩ = some (.int .i64 q.2.1) ∧ w.cell? ⟨b, o + i * 3 + 2, none⟩ = some (.slice q.2.2.2.1 q.2.2.1.length q.2.2.2.2) := by
  have hG : L.flatMap icell ≠ [] := fun e => by
    have := congrArg List.length e
    rw [icell_len] at this
    have := getElem?_lt hq
    simp at *
    omega
  obtain ⟨b, o, rfl, hc⟩ := h.row hG
  have h3 := fun j (hj : j < 3) => icell_at L i q hq j hj
  exact ⟨b, o, rfl, by have := hc _ _ (h3 0 (by omega)); exact this, by have := hc _ _ (h3 1 (by omega)); rwa [← Nat.add_assoc] at this, by have := hc _ _ (h3 2 (by omega)); rwa [← Nat.add_assoc] at this⟩
/-- The addresses of the law's blocks: the road at w0's end, its box at g1, the others from g2 on. -/
abbrev adrs (g0 g1 g2 : Nat) : AAdr := ⟨g0, g1, g2, g2 + 1, g2 + 1 + 1, g2 + 1 + 1 + 1, g2 + 1 + 1 + 1 + 1, g2 + 1 + 1 + 1 + 1 + 1⟩
theorem blk_size {w : World} {o : Obj} {n : Nat} (h : w.heap.size = n) : (w.alloc o).heap.size = n + 1 := by simp [h]
theorem Blk.newAt {w : World} {n : Nat} (h : w.heap.size = n) (t : TypeId) (cs : Array Value) : Blk (w.alloc (.cells cs t)) n t cs := by rw [← h]; exact Blk.new w t cs
theorem MapS.madeAt {w : World} {n : Nat} (h : w.heap.size = n) (q : IntKind) : MapS (w.alloc (.map #[] 0)) n q [] := by rw [← h]; exact MapS.made w q
/-- The head: what the law begins with. -/
theorem all_head {w0 w1 w2 : World} {g1 : Nat} (hR : RoadF w0.heap.size w0.heap.size 0 (0 : Nat) [] (Plus (fun _ => False) w0 w1) w1) (hb : Below w0.heap.size w0 w1) (h1 : g1 = w1.heap.size)
    (hb2 : Below (w1.alloc (.cells #[.pointer (some ⟨w0.heap.size, 0, none⟩)] 23)).heap.size (w1.alloc (.cells #[.pointer (some ⟨w0.heap.size, 0, none⟩)] 23)) w2) :
    AllR (adrs w0.heap.size g1 w2.heap.size) 0 0 0 [] [] [] [] none 0 (Plus (fun _ => False) w0 w1) w0 ((((((w2.alloc (.cells #[.int .i64 0] 3)).alloc (.map #[] 0)).alloc (.cells #[.map (some (w2.heap.size + 1))] 26)).alloc (.cells #[.slice none 0 0] 27)).alloc (.map #[] 0)).alloc (.cells #[.map (some (w2.heap.size + 1 + 1 + 1 + 1))] 26)) := by
  subst h1
  have hz := hb2.size
  simp at hz
  obtain ⟨z, hzz⟩ : ∃ z, w2.heap.size = z := ⟨_, rfl⟩
  have xr := (Blk.new w1 23 #[.pointer (some ⟨w0.heap.size, 0, none⟩)]).under hb2
  have b12 : Below w1.heap.size w1 w2 := (below_alloc (Below.refl w1.heap.size w1) _).trans (hb2.mono (by simp))
  have r2 := hR.under b12
  have hg0 : w0.heap.size < w1.heap.size := by obtain ⟨v, L, h, _⟩ := hR; exact h.lt
  rw [hzz]
  have s1 : (w2.alloc (.cells #[.int .i64 0] 3)).heap.size = z + 1 := blk_size hzz
  have s2 := blk_size (o := .map #[] 0) s1
  have s3 := blk_size (o := .cells #[.map (some (z + 1))] 26) s2
  have s4 := blk_size (o := .cells #[.slice none 0 0] 27) s3
  have s5 := blk_size (o := .map #[] 0) s4
  have xn := Blk.newAt hzz 3 #[.int .i64 0]
  have md := MapS.madeAt s1 .i64
  have xd := Blk.newAt s2 26 #[.map (some (z + 1))]
  have xs := Blk.newAt s3 27 #[.slice none 0 0]
  have mc := MapS.madeAt s4 .i64
  have xc := Blk.newAt s5 26 #[.map (some (z + 1 + 1 + 1 + 1))]
  have al := fun {w : World} (o : Obj) => below_alloc (Below.refl w.heap.size w) o
  have b2 := ((((((al (w := w2) (.cells #[.int .i64 0] 3)).trans ((al (.map #[] 0)).mono (by simp))).trans ((al (.cells #[.map (some (z + 1))] 26)).mono (by simp; omega))).trans ((al (.cells #[.slice none 0 0] 27)).mono (by simp; omega))).trans ((al (.map #[] 0)).mono (by simp; omega))).trans ((al (.cells #[.map (some (z + 1 + 1 + 1 + 1))] 26)).mono (by simp; omega)))
  refine ⟨⟨xr.under b2, ((((xn.under (al _)).under (al _)).under (al _)).under (al _)).under (al _), ((xd.under (al _)).under (al _)).under (al _), (xs.under (al _)).under (al _), xc, (((md.under (al _)).under (al _)).under (al _)).under (al _), mc.under (al _), OwnR.nil _ _ _ _, by simp, by simp, by simp only; omega⟩, r2.under b2, fun b hb hl => ?_, fun b hb' => ?_, (hb.trans (b12.mono hb.size)).trans (b2.mono (by omega)), Nat.le_refl _⟩
  · rcases hb with e | e
    · exact e.elim
    · rcases hl with x | x | x | x | x | x | x | x | ⟨y, hy, x⟩
      all_goals (try simp only at x)
      · omega
      · omega
      · omega
      · omega
      · omega
      · omega
      · omega
      · cases x
      · cases hy
  · rcases hb' with e | e
    · exact e.elim
    · have := b2.size
      omega
theorem adata0 : AData 0 0 [] [] [] [] := ⟨⟨List.Pairwise.nil, List.Pairwise.nil, by simp, by simp, by simp, by simp, by simp, by omega⟩, by simp, by simp, by simp, by simp, rfl, by simp, rfl⟩
end Go.Proofs.Ytkodmoeohffjhaa
