/- What the law RoadAll keeps: its boxes, its maps, what was sent. -/
import Derived.Test.YtkodmoeohffjhaaRoFixed
namespace Go.Proofs.Ytkodmoeohffjhaa
open Go.RowKit Go.Proofs.Ytkodmoeohffjhaa.Hp
set_option linter.unusedVariables false
set_option linter.unusedSimpArgs false

/-! ### A map's entries -/
theorem lk_snoc_ne (es : List (Int × Value)) (k k' : Int) (v : Value) (h : k' ≠ k) : lk (es ++ [(k', v)]) k = lk es k := by
  unfold lk
  rw [List.find?_append]
  have : ([(k', v)] : List (Int × Value)).find? (fun p => p.1 == k) = none := by simp [h]
  rw [this, Option.or_none]
theorem lk_snoc_eq (es : List (Int × Value)) (k : Int) (v : Value) (h : lk es k = none) : lk (es ++ [(k, v)]) k = some v := by
  unfold lk at h ⊢
  rw [List.find?_append]
  have h0 : es.find? (fun p => p.1 == k) = none := by simpa using h
  rw [h0]
  simp
theorem lk_none (es : List (Int × Value)) (k : Int) (h : ∀ p ∈ es, p.1 ≠ k) : lk es k = none := by
  unfold lk
  have : es.find? (fun p => p.1 == k) = none := by
    rw [List.find?_eq_none]
    intro p hp
    simpa using h p hp
  rw [this]
  rfl

/-- The addresses of the law's own blocks. -/
structure AAdr where
  gr : Nat
  br : Nat
  bn : Nat
  md : Nat
  bd : Nat
  bs : Nat
  mc : Nat
  bc : Nat
abbrev SE := List Int × Option Addr × Nat
abbrev SE.v (e : SE) : Value := .slice e.2.1 e.1.length e.2.2
/-- The law's own blocks. -/
def LBlk (a : AAdr) (SB : List SE) (A : Option Addr) (c : Nat) (b : Nat) : Prop :=
  b = a.br ∨ b = a.bn ∨ b = a.md ∨ b = a.bd ∨ b = a.bs ∨ b = a.mc ∨ b = a.bc ∨ (Value.slice A SB.length c).ownBlock = some b ∨ ∃ e ∈ SB, (SE.v e).ownBlock = some b
structure LMem (a : AAdr) (nb : Int) (SB : List SE) (es ec : List (Int × Value)) (A : Option Addr) (c : Nat) (w : World) : Prop where
  xr : Blk w a.br 23 #[.pointer (some ⟨a.gr, 0, none⟩)]
  xn : Blk w a.bn 3 #[.int .i64 nb]
  xd : Blk w a.bd 26 #[.map (some a.md)]
  xs : Blk w a.bs 27 #[.slice A SB.length c]
  xc : Blk w a.bc 26 #[.map (some a.mc)]
  md : MapS w a.md .i64 es
  mc : MapS w a.mc .i64 ec
  row : OwnR w (a.bc + 1) 30 1 (.slice A SB.length c) SB.length (SB.map SE.v)
  bytes : ∀ e ∈ SB, OwnI w (a.bc + 1) 5 .u8 (SE.v e) e.1
  off : ∀ e ∈ SB, ∀ b, (SE.v e).ownBlock = some b → (Value.slice A SB.length c).ownBlock ≠ some b
  ord : a.gr < a.br ∧ a.br < a.bn ∧ a.bn < a.md ∧ a.md < a.bd ∧ a.bd < a.bs ∧ a.bs < a.mc ∧ a.mc < a.bc
section
variable {a : AAdr} {nb : Int} {SB : List SE} {es ec : List (Int × Value)} {A : Option Addr} {c : Nat} {w w' : World}
theorem LMem.lt (h : LMem a nb SB es ec A c w) : ∀ b, LBlk a SB A c b → a.gr < b ∧ b < w.heap.size := by
  have ho := h.ord
  have l1 := h.xr.lt
  have l2 := h.xn.lt
  have l3 := h.xd.lt
  have l4 := h.xs.lt
  have l5 := h.xc.lt
  have l6 := h.md.lt
  have l7 := h.mc.lt
  intro b hb
  rcases hb with e | e | e | e | e | e | e | e | ⟨x, hx, e⟩
  · omega
  · omega
  · omega
  · omega
  · omega
  · omega
  · omega
  · have := OwnR.blocks h.row b e; omega
  · have := OwnI.lt (h.bytes x hx) b e; omega
theorem LMem.keeps {T : Nat → Prop} (h : LMem a nb SB es ec A c w) (k : Keeps T w w') (hT : ∀ b, LBlk a SB A c b → ¬ T b) : LMem a nb SB es ec A c w' :=
  ⟨k.blk h.xr (hT _ (.inl rfl)), k.blk h.xn (hT _ (.inr (.inl rfl))), k.blk h.xd (hT _ (.inr (.inr (.inr (.inl rfl))))), k.blk h.xs (hT _ (.inr (.inr (.inr (.inr (.inl rfl)))))), k.blk h.xc (hT _ (.inr (.inr (.inr (.inr (.inr (.inr (.inl rfl)))))))), k.map h.md (hT _ (.inr (.inr (.inl rfl)))), k.map h.mc (hT _ (.inr (.inr (.inr (.inr (.inr (.inl rfl))))))),
   k.row h.row (fun b hb => hT _ (.inr (.inr (.inr (.inr (.inr (.inr (.inr (.inl hb))))))))), fun e he => k.own (h.bytes e he) (fun b hb => hT _ (.inr (.inr (.inr (.inr (.inr (.inr (.inr (.inr ⟨e, he, hb⟩))))))))), h.off, h.ord⟩
theorem LMem.under (h : LMem a nb SB es ec A c w) (hb : Below w.heap.size w w') : LMem a nb SB es ec A c w' := h.keeps (Keeps.under hb (fun _ => False)) (fun _ _ h => h)
/-- One of the law's first blocks has turned, which is not of the row and not of the bytes. -/
theorem LMem.only {g : Nat} (h : LMem a nb SB es ec A c w) (hg : g ≤ a.bc) : (∀ b, (Value.slice A SB.length c).ownBlock = some b → ¬ b = g) ∧ ∀ e ∈ SB, ∀ b, (SE.v e).ownBlock = some b → ¬ b = g :=
  ⟨fun b hb e => by have := (OwnR.blocks h.row b hb).1; omega, fun e he b hb e' => by have := (OwnI.lt (h.bytes e he) b hb).1; omega⟩
theorem LMem.setN (h : LMem a nb SB es ec A c w) (z : Int) : LMem a z SB es ec A c (w.setCell ⟨a.bn, 0, none⟩ (.int .i64 z)) := by
  have ho := h.ord
  have k : Keeps (fun b => b = a.bn) w (w.setCell ⟨a.bn, 0, none⟩ (.int .i64 z)) := (Keeps.refl (fun b => b = a.bn) w).setCell (p := ⟨a.bn, 0, none⟩) (.inl rfl) _
  obtain ⟨o1, o2⟩ := h.only (g := a.bn) (by omega)
  exact ⟨k.blk h.xr (by omega), h.xn.s1_0 _, k.blk h.xd (by omega), k.blk h.xs (by omega), k.blk h.xc (by omega), k.map h.md (by omega), k.map h.mc (by omega), k.row h.row o1, fun e he => k.own (h.bytes e he) (o2 e he), h.off, h.ord⟩
theorem LMem.putC (h : LMem a nb SB es ec A c w) {ec' : List (Int × Value)} (hM : MapS w' a.mc .i64 ec') (hg : w.grownBy w' (some a.mc)) : LMem a nb SB es ec' A c w' := by
  have ho := h.ord
  have k : Keeps (fun b => b = a.mc) w w' := Keeps.grown hg (fun g h => by injection h with h; exact h.symm)
  obtain ⟨o1, o2⟩ := h.only (g := a.mc) (by omega)
  exact ⟨k.blk h.xr (by omega), k.blk h.xn (by omega), k.blk h.xd (by omega), k.blk h.xs (by omega), k.blk h.xc (by omega), k.map h.md (by omega), hM, k.row h.row o1, fun e he => k.own (h.bytes e he) (o2 e he), h.off, h.ord⟩
theorem LMem.putD (h : LMem a nb SB es ec A c w) {es' : List (Int × Value)} (hM : MapS w' a.md .i64 es') (hg : w.grownBy w' (some a.md)) : LMem a nb SB es' ec A c w' := by
  have ho := h.ord
  have k : Keeps (fun b => b = a.md) w w' := Keeps.grown hg (fun g h => by injection h with h; exact h.symm)
  obtain ⟨o1, o2⟩ := h.only (g := a.md) (by omega)
  exact ⟨k.blk h.xr (by omega), k.blk h.xn (by omega), k.blk h.xd (by omega), k.blk h.xs (by omega), k.blk h.xc (by omega), hM, k.map h.mc (by omega), k.row h.row o1, fun e he => k.own (h.bytes e he) (o2 e he), h.off, h.ord⟩
/-- One more has been sent: its bytes' copy lies in new memory, the row has grown, its box holds it. -/
theorem LMem.more {w1 w2 : World} {e : SE} {A' : Option Addr} {c' : Nat} (h : LMem a nb SB es ec A c w) (hb : Below w.heap.size w w1) (he : OwnI w1 w.heap.size 5 .u8 (SE.v e) e.1)
    (ha : AppedR w1 w2 (a.bc + 1) 30 1 (.slice A SB.length c) (.slice A' (SB.length + 1) c') (SB.length + 1) (SB.map SE.v ++ [SE.v e])) :
    LMem a nb (SB ++ [e]) es ec A' c' (w2.setCell ⟨a.bs, 0, none⟩ (.slice A' (SB.length + 1) c')) ∧ Keeps (LBlk a SB A c) w (w2.setCell ⟨a.bs, 0, none⟩ (.slice A' (SB.length + 1) c')) := by
  have ho := h.ord
  have h1 := h.under hb
  have hz := hb.size
  have lbs := h.xs.lt
  have lbc := h.xc.lt
  have hrow : ∀ b, (Value.slice A SB.length c).ownBlock = some b → a.bc < b ∧ b < w.heap.size := fun b hb => OwnR.blocks h.row b hb
  have k12 : Keeps (fun b => (Value.slice A SB.length c).ownBlock = some b) w1 w2 := Keeps.grown ha.only (fun g hg => hg)
  have k2 : Keeps (fun b => (Value.slice A SB.length c).ownBlock = some b ∨ b = a.bs) w1 (w2.setCell ⟨a.bs, 0, none⟩ (.slice A' (SB.length + 1) c')) := (k12.mono (fun g hg => .inl hg)).setCell (p := ⟨a.bs, 0, none⟩) (.inl (.inr rfl)) _
  have k3 : Keeps (fun b => b = a.bs) w2 (w2.setCell ⟨a.bs, 0, none⟩ (.slice A' (SB.length + 1) c')) := (Keeps.refl (fun b => b = a.bs) w2).setCell (p := ⟨a.bs, 0, none⟩) (.inl rfl) _
  have nx : ∀ g, g ≤ a.bc → g ≠ a.bs → ¬ ((Value.slice A SB.length c).ownBlock = some g ∨ g = a.bs) := fun g h1 h2 e => by
    rcases e with e | e
    · have := hrow g e; omega
    · exact h2 e
  have hnew : ∀ b, (SE.v e).ownBlock = some b → w.heap.size ≤ b := fun b hb => (OwnI.lt he b hb).1
  have hA' : ∀ b, (Value.slice A' (SB.length + 1) c').ownBlock = some b → (Value.slice A SB.length c).ownBlock = some b ∨ w1.heap.size ≤ b := fun b hb => by
    rcases ha.where_ with e | e
    · rw [e] at hb; exact .inl hb
    · rw [e] at hb; injection hb with hb; exact .inr (by omega)
  have hlen : (SB ++ [e]).length = SB.length + 1 := by simp
  refine ⟨⟨k2.blk h1.xr (nx _ (by omega) (by omega)), k2.blk h1.xn (nx _ (by omega) (by omega)), k2.blk h1.xd (nx _ (by omega) (by omega)), ?_, k2.blk h1.xc (nx _ (by omega) (by omega)), k2.map h1.md (nx _ (by omega) (by omega)), k2.map h1.mc (nx _ (by omega) (by omega)), ?_, fun x hx => ?_, fun x hx b hb' => ?_, h.ord⟩, ?_⟩
  · rw [hlen]
    exact (k12.blk h1.xs (fun e => by have := hrow _ e; omega)).s1_0 _
  · rw [hlen, List.map_append]
    exact k3.row ha.own (fun b hb' e => by have := (OwnR.blocks ha.own b hb').1; omega)
  · rcases List.mem_append.1 hx with hx | hx
    · exact k2.own (h1.bytes x hx) (fun b hb' e => by
        rcases e with e | e
        · exact h.off x hx b hb' e
        · have := (OwnI.lt (h.bytes x hx) b hb').1; omega)
    · rw [List.mem_singleton.1 hx]
      exact k2.own (OwnI.mono he (by omega)) (fun b hb' e => by
        have := hnew b hb'
        rcases e with e | e
        · have := hrow b e; omega
        · omega)
  · rw [hlen]
    intro hc
    rcases List.mem_append.1 hx with hx | hx
    · rcases hA' b hc with e | e
      · exact h.off x hx b hb' e
      · have := (OwnI.lt (h.bytes x hx) b hb').2; omega
    · rw [List.mem_singleton.1 hx] at hb'
      have h5 := OwnI.lt he b hb'
      rcases hA' b hc with e | e
      · have := hrow b e; omega
      · omega
  · exact (Keeps.under hb _).trans k2 (fun g hg _ => by
      rcases hg with e | e
      · exact .inr (.inr (.inr (.inr (.inr (.inr (.inr (.inl e)))))))
      · exact .inr (.inr (.inr (.inr (.inl e)))))
end
/-- What the law knows, as data. -/
structure AData (now : Int) (n : Nat) (F : List MD) (SB : List SE) (es ec : List (Int × Value)) : Prop where
  inv : FInv now n F
  adr : ∀ q ∈ F, q.addr = q.number
  due : ∀ q ∈ F, lk es q.number = some (.int .i64 q.due)
  new : ∀ q ∈ F, lk ec q.number = none
  byt : ∀ q ∈ F, ∃ e, SB[q.number.toNat]? = some e ∧ e.1 = q.bs
  cnt : ec.length + F.length = n
  hi : (∀ p ∈ es, p.1 < n) ∧ (∀ p ∈ ec, p.1 < n)
  len : SB.length = n
/-- All that the law has in memory. w0: the world at its head. -/
structure AllR (a : AAdr) (nb now : Int) (n : Nat) (F : List MD) (SB : List SE) (es ec : List (Int × Value)) (A : Option Addr) (c : Nat) (S : Nat → Prop) (w0 w : World) : Prop where
  mem : LMem a nb SB es ec A c w
  road : RoadF a.gr a.gr now n F S w
  off : ∀ b, S b → ¬ LBlk a SB A c b
  slt : ∀ b, S b → w0.heap.size ≤ b ∧ b < w.heap.size
  below : Below w0.heap.size w0 w
  base : w0.heap.size ≤ a.gr
section
variable {a : AAdr} {nb now : Int} {n : Nat} {F : List MD} {SB : List SE} {es ec : List (Int × Value)} {A : Option Addr} {c : Nat} {S : Nat → Prop} {w0 w w' : World}
theorem AllR.under (h : AllR a nb now n F SB es ec A c S w0 w) (hb : Below w.heap.size w w') : AllR a nb now n F SB es ec A c S w0 w' :=
  ⟨h.mem.under hb, h.road.under hb, h.off, fun b hb' => ⟨(h.slt b hb').1, by have := (h.slt b hb').2; have := hb.size; omega⟩, h.below.trans (hb.mono h.below.size), h.base⟩
theorem AllR.lo (h : AllR a nb now n F SB es ec A c S w0 w) : ∀ b, LBlk a SB A c b → w0.heap.size ≤ b := fun b hb => by have := (h.mem.lt b hb).1; have := h.base; omega
theorem AllR.setN (h : AllR a nb now n F SB es ec A c S w0 w) (z : Int) : AllR a z now n F SB es ec A c S w0 (w.setCell ⟨a.bn, 0, none⟩ (.int .i64 z)) := by
  have ho := h.mem.ord
  have hbs := h.base
  have k : Keeps (fun b => b = a.bn) w (w.setCell ⟨a.bn, 0, none⟩ (.int .i64 z)) := (Keeps.refl (fun b => b = a.bn) w).setCell (p := ⟨a.bn, 0, none⟩) (.inl rfl) _
  exact ⟨h.mem.setN z, h.road.keeps k (fun b hb e => h.off b hb (.inr (.inl e))), h.off, fun b hb => ⟨(h.slt b hb).1, by simpa using (h.slt b hb).2⟩, Keeps.below h.below k h.below.size (fun b e => by omega), h.base⟩
theorem AllR.putC (h : AllR a nb now n F SB es ec A c S w0 w) {ec' : List (Int × Value)} (hM : MapS w' a.mc .i64 ec') (hg : w.grownBy w' (some a.mc)) : AllR a nb now n F SB es ec' A c S w0 w' := by
  have ho := h.mem.ord
  have hbs := h.base
  have k : Keeps (fun b => b = a.mc) w w' := Keeps.grown hg (fun g h => by injection h with h; exact h.symm)
  exact ⟨h.mem.putC hM hg, h.road.keeps k (fun b hb e => h.off b hb (.inr (.inr (.inr (.inr (.inr (.inl e))))))), h.off, fun b hb => ⟨(h.slt b hb).1, by have := (h.slt b hb).2; have := k.size; omega⟩, Keeps.below h.below k h.below.size (fun b e => by omega), h.base⟩
theorem AllR.putD (h : AllR a nb now n F SB es ec A c S w0 w) {es' : List (Int × Value)} (hM : MapS w' a.md .i64 es') (hg : w.grownBy w' (some a.md)) : AllR a nb now n F SB es' ec A c S w0 w' := by
  have ho := h.mem.ord
  have hbs := h.base
  have k : Keeps (fun b => b = a.md) w w' := Keeps.grown hg (fun g h => by injection h with h; exact h.symm)
  exact ⟨h.mem.putD hM hg, h.road.keeps k (fun b hb e => h.off b hb (.inr (.inr (.inl e)))), h.off, fun b hb => ⟨(h.slt b hb).1, by have := (h.slt b hb).2; have := k.size; omega⟩, Keeps.below h.below k h.below.size (fun b e => by omega), h.base⟩
theorem AllR.sent {n' : Nat} {d : MD} (h : AllR a nb now n F SB es ec A c S w0 w) (hs : FAdded a.gr a.gr now n F S d w w') (hn : (n : Int) + 1 = n') : AllR a nb now n' (insB d F) SB es ec A c (Plus S w w') w0 w' := by
  obtain ⟨h1, h2⟩ := hs
  rw [hn] at h1
  refine ⟨h.mem.keeps h2 (fun b hb hs => h.off b hs hb), h1, fun b hb hl => ?_, fun b hb => ?_, Keeps.below h.below h2 h.below.size (fun b hb => (h.slt b hb).1), h.base⟩
  · rcases hb with e | e
    · exact h.off b e hl
    · have := (h.mem.lt b hl).2; omega
  · rcases hb with e | e
    · exact ⟨(h.slt b e).1, by have := (h.slt b e).2; have := h2.size; omega⟩
    · have := h.below.size; omega
theorem AllR.more {w1 w2 : World} {e : SE} {A' : Option Addr} {c' : Nat} (h : AllR a nb now n F SB es ec A c S w0 w) (hb : Below w.heap.size w w1) (he : OwnI w1 w.heap.size 5 .u8 (SE.v e) e.1)
    (ha : AppedR w1 w2 (a.bc + 1) 30 1 (.slice A SB.length c) (.slice A' (SB.length + 1) c') (SB.length + 1) (SB.map SE.v ++ [SE.v e])) :
    AllR a nb now n F (SB ++ [e]) es ec A' c' S w0 (w2.setCell ⟨a.bs, 0, none⟩ (.slice A' (SB.length + 1) c')) := by
  obtain ⟨h1, h2⟩ := h.mem.more hb he ha
  have hlt := h.mem.lt
  have hz := hb.size
  have hlen : (SB ++ [e]).length = SB.length + 1 := by simp
  refine ⟨h1, h.road.keeps h2 h.off, fun b hs hl => ?_, fun b hb => ⟨(h.slt b hb).1, by have := (h.slt b hb).2; have := h2.size; omega⟩, Keeps.below h.below h2 h.below.size h.lo, h.base⟩
  have hsl := (h.slt b hs).2
  rcases hl with x | x | x | x | x | x | x | x | ⟨y, hy, x⟩
  · exact h.off b hs (.inl x)
  · exact h.off b hs (.inr (.inl x))
  · exact h.off b hs (.inr (.inr (.inl x)))
  · exact h.off b hs (.inr (.inr (.inr (.inl x))))
  · exact h.off b hs (.inr (.inr (.inr (.inr (.inl x)))))
  · exact h.off b hs (.inr (.inr (.inr (.inr (.inr (.inl x))))))
  · exact h.off b hs (.inr (.inr (.inr (.inr (.inr (.inr (.inl x)))))))
  · rw [hlen] at x
    rcases ha.where_ with y | y
    · rw [y] at x
      exact h.off b hs (.inr (.inr (.inr (.inr (.inr (.inr (.inr (.inl x))))))))
    · rw [y] at x
      injection x with x
      omega
  · rcases List.mem_append.1 hy with hy | hy
    · exact h.off b hs (.inr (.inr (.inr (.inr (.inr (.inr (.inr (.inr ⟨y, hy, x⟩))))))))
    · rw [List.mem_singleton.1 hy] at x
      have := (OwnI.lt he b x).1
      omega
end
end Go.Proofs.Ytkodmoeohffjhaa
