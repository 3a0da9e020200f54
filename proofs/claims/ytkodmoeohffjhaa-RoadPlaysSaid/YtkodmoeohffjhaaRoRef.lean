/- The document's road: copied, the state in memory. -/
import Derived.Test.YtkodmoeohffjhaaRoFixed
namespace Go.Proofs.Ytkodmoeohffjhaa
open Go.RowKit Go.Proofs.Ytkodmoeohffjhaa.Hp
set_option linter.unusedVariables false
set_option linter.unusedSimpArgs false

set_option maxHeartbeats 1000000 in
set_option maxRecDepth 100000 in
theorem copied_any (addr : Int) (down : Bool) (A : Option Addr) (n c : Nat) (bs : List Int) (w : World) (hr : ReadI w .u8 A bs) (hn : n = bs.length) (hl : n ≤ 1000000) :
    Calls Try.prog 44 #[gramV addr down A n c] w fun e w' => ∃ A' c', e = .returned (gramV addr down A' bs.length c') ∧ OwnB w' w.heap.size A' c' bs ∧ Below w.heap.size w w' := by
  have HR := Lib.hid (fun (a b : Obj) => (hr.under (below_alloc (below_alloc (Below.refl w.heap.size w) a) b)))
  have HN := Lib.hid hn
  clear hr hn
  go_enter Try.func44, Try.ntmps44
  go_wp2_with (go_at_call 13; refine (copy_any A n c bs _ HN.out (HR.out _ _) (by have := HN.out; omega)).mono ?_; rintro e w6 ⟨A6, c6, rfl, ho6, hb6⟩; obtain ⟨hX, hY⟩ := two_blk (only_of_below hb6 none); have x0 := hX.cell 0; have x1 := hX.cell 1; have x2 := hX.cell 2; have y0 := hY.cell 0; have y1 := hY.cell 1; have y2 := hY.cell 2; have fx := hX.frozen 2; have fy0 := hY.frozen 0; have fy1 := hY.frozen 1; have fy2 := hY.frozen 2; simp at x0 x1 x2 y0 y1 y2; have b6 : Below w.heap.size w w6 := (below_alloc (below_alloc (Below.refl w.heap.size w) _) _).trans (hb6.mono (by simp; omega)); have z6 : w.heap.size + 2 ≤ w6.heap.size := (by have := hb6.size; simpa using this); have HO6 := Lib.hid ho6; clear ho6)
  refine bodyPost_ret (v := gramV addr down A6 bs.length c6) (by simp [results, Try.results44, go_sem, y0, y1, y2]) rfl ?_
  refine ⟨A6, c6, rfl, ?_, (((b6.setCell (by simp) _).setCell (by simp) _).setCell (by simp) _).setCell (by simp) _⟩
  have k : ∀ (i j : Nat) (u : Value), i ≤ 1 → ∀ {W : World}, OwnI W (w.heap.size + 2) 5 .u8 (.slice A6 bs.length c6) bs → OwnI (W.setCell ⟨w.heap.size + i, j, none⟩ u) (w.heap.size + 2) 5 .u8 (.slice A6 bs.length c6) bs := fun i j u hi W ho =>
    (Keeps.setCell (S := fun b => b = w.heap.size + i) (p := ⟨w.heap.size + i, j, none⟩) (Keeps.refl _ W) (.inl rfl) u).own ho (fun g hg e => by have := (ho.lt g hg).1; omega)
  have h0 : OwnI w6 (w.heap.size + 2) 5 .u8 (.slice A6 bs.length c6) bs := by have := HO6.out; simpa using this
  exact OwnI.mono (k 1 2 _ (by omega) (k 1 1 _ (by omega) (k 1 0 _ (by omega) (k 0 2 _ (by omega) h0)))) (by omega)
/-- The document's road by value. -/
abbrev refV (now put : Int) (A : Option Addr) (n c : Nat) : Value := .agg #[.int .i64 now, .int .i64 put, .slice A n c]
/-- The document's list in memory: all its blocks are of T. -/
structure RefF (F : List MD) (T : Nat → Prop) (A : Option Addr) (c : Nat) (w : World) : Prop where
  out : ∃ G : List ME, G.map Prod.fst = F ∧ ReadC w A (G.flatMap mcell) ∧ (∀ q ∈ G, ReadI w .u8 q.2.1 q.1.bs) ∧ (∀ q ∈ G, ∀ b, q.blk = some b → T b)
  blk : ∀ b, (Value.slice A F.length c).ownBlock = some b → T b
  lt : ∀ b, T b → b < w.heap.size
  cap : F.length ≤ c
  nil : (A = none ∧ c = 0) ∨ ∃ b o, A = some ⟨b, o, none⟩
theorem ownBlock_some {A : Option Addr} {n c b : Nat} : (Value.slice A n c).ownBlock = some b ↔ ∃ o x, A = some ⟨b, o, x⟩ := by
  cases A with
  | none => simp [Value.ownBlock]
  | some a =>
    obtain ⟨b', o, x⟩ := a
    simp [Value.ownBlock]
section
variable {F : List MD} {T : Nat → Prop} {A : Option Addr} {c : Nat} {w w' : World}
theorem RefF.keeps {S : Nat → Prop} (h : RefF F T A c w) (k : Keeps S w w') (hS : ∀ b, T b → ¬ S b) : RefF F T A c w' := by
  obtain ⟨G, h1, h2, h3, h4⟩ := h.out
  refine ⟨⟨G, h1, k.readC h2 (fun b o e => hS b (h.blk b (ownBlock_some.2 ⟨o, none, e⟩))), fun q hq => k.readI (h3 q hq) (fun b o e => hS b (h4 q hq b ((blk_some q b).2 ⟨o, none, e⟩))), h4⟩, h.blk, fun b hb => by have := h.lt b hb; have := k.size; omega, h.cap, h.nil⟩
theorem RefF.under (h : RefF F T A c w) (hb : Below w.heap.size w w') : RefF F T A c w' := h.keeps (Keeps.under hb (fun _ => False)) (fun _ _ h => h)
end
theorem OwnR.nilc {w : World} {base : Nat} {e : TypeId} {size n c : Nat} {A : Option Addr} {xs : List Value} (h : OwnR w base e size (.slice A n c) n xs) : (A = none ∧ c = 0) ∨ ∃ b o, A = some ⟨b, o, none⟩ := by
  rcases h.2 with ⟨h1, _⟩ | ⟨g, cap, cur, h1, _⟩
  · injection h1 with h2 h3 h4
    exact .inl ⟨h2, h4⟩
  · injection h1 with h2
    exact .inr ⟨_, _, h2⟩
/-- A row of the document's mails that a call of its own makes: since w0. -/
structure RRow (T : Nat → Prop) (w0 : World) (v : Value) (X : List ME) (w : World) : Prop where
  row : OwnR w w0.heap.size 80 5 v X.length (X.flatMap mcell)
  bytes : ∀ q ∈ X, ReadI w .u8 q.2.1 q.1.bs
  off : ∀ q ∈ X, ∀ b, q.blk = some b → v.ownBlock ≠ some b
  own : ∀ q ∈ X, ∀ b, q.blk = some b → Plus T w0 w b
  tlt : ∀ b, T b → b < w0.heap.size
  below : Below w0.heap.size w0 w
section
variable {T : Nat → Prop} {w0 w w1 w2 : World} {v v' : Value} {X : List ME} {q : ME}
theorem RRow.under (h : RRow T w0 v X w) (hb : Below w.heap.size w w1) : RRow T w0 v X w1 :=
  ⟨h.row.under hb, fun q hq => (h.bytes q hq).under hb, h.off, fun q hq b hb' => (h.own q hq b hb').imp_right (fun e => ⟨e.1, by have := hb.size; omega⟩), h.tlt, h.below.trans (hb.mono h.below.size)⟩
/-- One more mail, whose bytes can be read and lie not in the row. -/
theorem RRow.push (h : RRow T w0 v X w) (hq : ReadI w .u8 q.2.1 q.1.bs) (hb : ∀ b, q.blk = some b → v.ownBlock ≠ some b ∧ Plus T w0 w b)
    (ha : AppedR w w1 w0.heap.size 80 5 v v' (X.length + 1) (X.flatMap mcell ++ mcell q)) : RRow T w0 v' (X ++ [q]) w1 := by
  have k : Keeps (fun b => v.ownBlock = some b) w w1 := Keeps.grown ha.only (fun g hg => hg)
  have hz := k.size
  have lim : ∀ b, Plus T w0 w b → b < w.heap.size := fun b e => by
    rcases e with e | e
    · have := h.tlt b e; have := h.below.size; omega
    · exact e.2
  have hoff : ∀ b, Plus T w0 w b → v.ownBlock ≠ some b → v'.ownBlock ≠ some b := fun b e hn hv => by
    rcases ha.where_ with x | x
    · rw [x] at hv; exact hn hv
    · rw [x] at hv; injection hv with hv; have := lim b e; omega
  have hall : ∀ p ∈ X ++ [q], ReadI w .u8 p.2.1 p.1.bs ∧ ∀ b, p.blk = some b → v.ownBlock ≠ some b ∧ Plus T w0 w b := by
    intro p hp
    rcases List.mem_append.1 hp with hp | hp
    · exact ⟨h.bytes p hp, fun b e => ⟨h.off p hp b e, h.own p hp b e⟩⟩
    · rw [List.mem_singleton.1 hp]; exact ⟨hq, hb⟩
  refine ⟨by have := ha.own; rw [flat_snoc]; simpa using this, fun p hp => k.readI (hall p hp).1 (fun b o e => ((hall p hp).2 b ((blk_some p b).2 ⟨o, none, e⟩)).1), fun p hp b e => hoff b ((hall p hp).2 b e).2 ((hall p hp).2 b e).1, fun p hp b e => ((hall p hp).2 b e).2.imp_right (fun x => ⟨x.1, by omega⟩), h.tlt, ?_⟩
  exact Keeps.below h.below k h.below.size (fun b e => (OwnR.blocks h.row b e).1)
theorem RRow.refF {A : Option Addr} {n c : Nat} {F : List MD} (h : RRow T w0 (.slice A n c) X w) (hX : X.map Prod.fst = F) (hn : n = F.length) : RefF F (Plus T w0 w) A c w := by
  subst hn
  have hl : X.length = F.length := by rw [← hX]; simp
  obtain ⟨A', c', e, hcap, _⟩ := OwnR.form h.row
  injection e with e1 e2 e3
  subst e1 e3
  have hr := h.row
  refine ⟨⟨X, hX, ?_, h.bytes, h.own⟩, fun b hb => .inr (OwnR.blocks h.row b hb), fun b hb => ?_, by omega, OwnR.nilc (by rw [hl] at hr; exact hr)⟩
  · have : OwnR w w0.heap.size 80 5 (.slice A X.length c) X.length (X.flatMap mcell) := by rw [hl] at hr ⊢; exact hr
    exact OwnR.read this
  · rcases hb with e | e
    · have := h.tlt b e; have := h.below.size; omega
    · exact e.2
/-- A new, empty row. -/
theorem RRow.start (hT : ∀ b, T b → b < w0.heap.size) (hb : Below w0.heap.size w0 w) (n : Nat) (hn : n = w.heap.size) : RRow T w0 (.slice (some ⟨n, 0, none⟩) 0 0) [] (w.alloc (.cells #[] 80)) := by
  subst hn
  refine ⟨?_, by simp, by simp, by simp, hT, below_alloc hb _⟩
  have := World.ownsRow_lit (e := 80) (size := 5) (base := w0.heap.size) w (#[] : Array Value) 0 hb.size (by simp [maxLen]) (by simp)
  simpa using this
end
end Go.Proofs.Ytkodmoeohffjhaa
