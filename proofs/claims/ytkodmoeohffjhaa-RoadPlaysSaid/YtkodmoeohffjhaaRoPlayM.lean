/- What RoadPlays holds at the head of its loop: the road and the document's road side by side. -/
import Derived.Test.YtkodmoeohffjhaaRoLooks
namespace Go.Proofs.Ytkodmoeohffjhaa
open Go.RowKit Go.Proofs.Ytkodmoeohffjhaa.Hp
set_option linter.unusedVariables false
set_option linter.unusedSimpArgs false

/-- The road (now, put, F; blocks S) and the document's (now', put', F'; blocks T) in the box at g4. -/
structure Play (B gr g4 : Nat) (now put : Int) (F : List MD) (S : Nat → Prop) (now' put' : Int) (F' : List MD) (T : Nat → Prop) (A : Option Addr) (c : Nat) (w0 w : World) : Prop where
  road : RoadF B gr now put F S w
  ref : RefF F' T A c w
  box : Blk w g4 48 #[.int .i64 now', .int .i64 put', .slice A F'.length c]
  apart : ∀ b, S b → ¬ T b
  offS : ¬ S g4
  offT : ¬ T g4
  lowS : ∀ b, S b → B ≤ b
  lowT : ∀ b, T b → B ≤ b
  lo : B ≤ g4
  ltS : ∀ b, S b → b < w.heap.size
  base : Below B w0 w
section
variable {B gr g4 : Nat} {now put now' put' n2 p2 : Int} {F F' F2 : List MD} {S T X : Nat → Prop} {A A2 : Option Addr} {c c2 : Nat} {w0 w w1 w' : World}
theorem Play.keeps (h : Play B gr g4 now put F S now' put' F' T A c w0 w) (k : Keeps X w w') (hS : ∀ b, S b → ¬ X b) (hT : ∀ b, T b → ¬ X b) (h4 : ¬ X g4) (hX : ∀ b, X b → B ≤ b) : Play B gr g4 now put F S now' put' F' T A c w0 w' :=
  have hz : B ≤ w.heap.size := by have := h.lo; have := h.box.lt; omega
  ⟨h.road.keeps k hS, h.ref.keeps k hT, k.blk h.box h4, h.apart, h.offS, h.offT, h.lowS, h.lowT, h.lo, fun b hb => by have := h.ltS b hb; have := k.size; omega, Keeps.below h.base k hz hX⟩
theorem Play.under (h : Play B gr g4 now put F S now' put' F' T A c w0 w) (hb : Below w.heap.size w w') : Play B gr g4 now put F S now' put' F' T A c w0 w' :=
  h.keeps (Keeps.under hb (fun _ => False)) (fun _ _ e => e) (fun _ _ e => e) (fun e => e) (fun _ e => e.elim)
/-- The document's answer, stored into its box. -/
theorem Play.store (h : Play B gr g4 now put F S now' put' F' T A c w0 w) (hr : RefF F2 (Plus T w w1) A2 c2 w1) (hb : Below w.heap.size w w1) :
    Play B gr g4 now put F S n2 p2 F2 (Plus T w w1) A2 c2 w0 (((w1.setCell ⟨g4, 0, none⟩ (.int .i64 n2)).setCell ⟨g4, 1, none⟩ (.int .i64 p2)).setCell ⟨g4, 2, none⟩ (.slice A2 F2.length c2)) := by
  have h1 := h.under hb
  have hg := h.box.lt
  have hz := hb.size
  have hlo := h.lo
  have k : Keeps (fun b => b = g4) w1 (((w1.setCell ⟨g4, 0, none⟩ (.int .i64 n2)).setCell ⟨g4, 1, none⟩ (.int .i64 p2)).setCell ⟨g4, 2, none⟩ (.slice A2 F2.length c2)) := keeps_three (Keeps.refl (fun b => b = g4) _) g4 rfl _ _ _
  refine ⟨h1.road.keeps k (fun b hb e => h.offS (e ▸ hb)), hr.keeps k (fun b hb e => ?_), ((h1.box.s3_0 _).s3_1 _).s3_2 _, fun b hS hT => ?_, h.offS, fun e => ?_, h.lowS, fun b hT => ?_, h.lo, fun b hS => ?_, Keeps.below h1.base k (by omega) (fun b e => by omega)⟩
  · subst e
    rcases hb with x | x
    · exact h.offT x
    · omega
  · rcases hT with x | x
    · exact h.apart b hS x
    · have := h.ltS b hS; omega
  · rcases e with x | x
    · exact h.offT x
    · omega
  · rcases hT with x | x
    · exact h.lowT b x
    · omega
  · have := h1.ltS b hS; have := k.size; omega
/-- The road's answer. -/
theorem Play.step (h : Play B gr g4 now put F S now' put' F' T A c w0 w) (hr : RoadF B gr n2 p2 F2 (Plus S w w1) w1) (k : Keeps S w w1) :
    Play B gr g4 n2 p2 F2 (Plus S w w1) now' put' F' T A c w0 w1 := by
  have hg := h.box.lt
  have hz := k.size
  have hlo := h.lo
  refine ⟨hr, h.ref.keeps k (fun b hT hS => h.apart b hS hT), k.blk h.box h.offS, fun b hS hT => ?_, fun e => ?_, h.offT, fun b hS => ?_, h.lowT, h.lo, fun b hS => ?_, Keeps.below h.base k (by omega) h.lowS⟩
  · rcases hS with x | x
    · exact h.apart b x hT
    · have := h.ref.lt b hT; omega
  · rcases e with x | x
    · exact h.offS x
    · omega
  · rcases hS with x | x
    · exact h.lowS b x
    · omega
  · rcases hS with x | x
    · have := h.ltS b x; omega
    · exact x.2
end
/-- The two agree after k calls. -/
def Agree (B gr g4 k : Nat) (w0 w : World) : Prop :=
  ∃ now put F S T A c, Play B gr g4 now put F S now put F T A c w0 w ∧ FInv now put F ∧ now ≤ k ∧ put ≤ k ∧ F.length ≤ k
theorem Agree.under {B gr g4 k : Nat} {w0 w w' : World} (h : Agree B gr g4 k w0 w) (hb : Below w.heap.size w w') : Agree B gr g4 k w0 w' := by
  obtain ⟨now, put, F, S, T, A, c, h1, h2, h3, h4, h5⟩ := h
  exact ⟨now, put, F, S, T, A, c, h1.under hb, h2, h3, h4, h5⟩
theorem Agree.more {B gr g4 k m : Nat} {w0 w : World} (h : Agree B gr g4 k w0 w) (hm : k ≤ m) : Agree B gr g4 m w0 w := by
  obtain ⟨now, put, F, S, T, A, c, h1, h2, h3, h4, h5⟩ := h
  exact ⟨now, put, F, S, T, A, c, h1, h2, by omega, by omega, by omega⟩
/-- One call as it came in: kind, place, number, the datagram. -/
structure OpD where
  kind : Int
  i : Int
  n : Int
  addr : Int
  down : Bool
  bs : List Int
  A : Option Addr
  c : Nat
def ocell (q : OpD) : List Value := [.int .i64 q.kind, .int .i64 q.i, .int .i64 q.n, .int .i64 q.addr, .bool q.down, .slice q.A q.bs.length q.c]
/-- Calls that came in, in memory. -/
structure OpsR (w : World) (A : Option Addr) (L : List OpD) : Prop where
  row : ReadC w A (L.flatMap ocell)
  bytes : ∀ q ∈ L, ReadI w .u8 q.A q.bs ∧ q.bs.length ≤ 9223372036854775807
theorem ocell_len (L : List OpD) : (L.flatMap ocell).length = L.length * 6 := by
  induction L with
  | nil => rfl
  | cons q L ih => rw [List.flatMap_cons, List.length_append, ih]; simp [ocell]; omega
theorem ocell_at : ∀ (L : List OpD) (i : Nat) (q : OpD), L[i]? = some q → ∀ j, j < 6 → (L.flatMap ocell)[i * 6 + j]? = (ocell q)[j]?
  | [], i, q, h, j, hj => by simp at h
  | p :: L, 0, q, h, j, hj => by
    simp at h
    subst h
    rw [List.flatMap_cons, Nat.zero_mul, Nat.zero_add, List.getElem?_append_left (by simp [ocell]; omega)]
  | p :: L, i + 1, q, h, j, hj => by
    rw [List.flatMap_cons, List.getElem?_append_right (by simp [ocell]; omega)]
    have : (i + 1) * 6 + j - (ocell p).length = i * 6 + j := by simp [ocell]; omega
    rw [this]
    exact ocell_at L i q (by simpa using h) j hj
theorem OpsR.cells {w : World} {A : Option Addr} {L : List OpD} {i : Nat} {q : OpD} (h : OpsR w A L) (hq : L[i]? = some q) :
    ∃ b o, A = some ⟨b, o, none⟩ ∧ w.cell? ⟨b, o + i * 6, none⟩ = some (.int .i64 q.kind) ∧ w.cell? ⟨b, o + i * 6 + 1, none⟩ = some (.int .i64 q.i) ∧ w.cell? ⟨b, o + i * 6 + 2, none⟩ = some (.int .i64 q.n) ∧ w.cell? ⟨b, o + i * 6 + 3, none⟩ = some (.int .i64 q.addr) ∧ w.cell? ⟨b, o + i * 6 + 4, none⟩ = some (.bool q.down) ∧ w.cell? ⟨b, o + i * 6 + 5, none⟩ = some (.slice q.A q.bs.length q.c) := by
  have hG : L.flatMap ocell ≠ [] := fun e => by
    have := congrArg List.length e
    rw [ocell_len] at this
    have := getElem?_lt hq
    simp at *
    omega
  obtain ⟨b, o, rfl, hc⟩ := h.row hG
  have h6 := fun j (hj : j < 6) => (ocell_at L i q hq j hj)
  have c := fun j (hj : j < 6) u (hu : (ocell q)[j]? = some u) => hc (i * 6 + j) u ((h6 j hj).trans hu)
  exact ⟨b, o, rfl, c 0 (by omega) _ rfl, by have := c 1 (by omega) _ rfl; rwa [← Nat.add_assoc] at this, by have := c 2 (by omega) _ rfl; rwa [← Nat.add_assoc] at this, by have := c 3 (by omega) _ rfl; rwa [← Nat.add_assoc] at this, by have := c 4 (by omega) _ rfl; rwa [← Nat.add_assoc] at this, by have := c 5 (by omega) _ rfl; rwa [← Nat.add_assoc] at this⟩
end Go.Proofs.Ytkodmoeohffjhaa
