/- One call at the document's road and at the road: Drop, Double, Late. -/
import Derived.Test.YtkodmoeohffjhaaRoPlayM
namespace Go.Proofs.Ytkodmoeohffjhaa
open Go.RowKit Go.Proofs.Ytkodmoeohffjhaa.Hp
set_option linter.unusedVariables false
set_option linter.unusedSimpArgs false

/-- The two agree after k calls, and the call at hand lies in a box of its own. -/
def AgreeX (B gr g4 g6 k : Nat) (q : OpD) (X : Nat → Prop) (w0 w : World) : Prop :=
  ∃ now put F S T A c, Play B gr g4 now put F S now put F T A c w0 w ∧ FInv now put F ∧ now ≤ k ∧ put ≤ k ∧ F.length ≤ k ∧ (∀ b, X b → ¬ S b ∧ ¬ T b ∧ b ≠ g4 ∧ b ≠ g6 ∧ b < w.heap.size ∧ B ≤ b) ∧ Blk w g6 50 (ocell q).toArray ∧ ¬ S g6 ∧ ¬ T g6 ∧ g6 ≠ g4
/-- No blocks of the call's own. -/
abbrev Agree6 (B gr g4 g6 k : Nat) (q : OpD) (w0 w : World) : Prop := AgreeX B gr g4 g6 k q (fun _ => False) w0 w
theorem Agree.six {B gr g4 k : Nat} {q : OpD} {w0 w w1 : World} (h : Agree B gr g4 k w0 w) (h1 : w1 = w.alloc (.cells (ocell q).toArray 50)) : Agree6 B gr g4 w.heap.size k q w0 w1 := by
  subst h1
  obtain ⟨now, put, F, S, T, A, c, hp, h2, h3, h4, h5⟩ := h
  refine ⟨now, put, F, S, T, A, c, hp.under (below_alloc (Below.refl _ _) _), h2, h3, h4, h5, fun b hb => hb.elim, Blk.new _ _ _, fun e => ?_, fun e => ?_, fun e => ?_⟩
  · have := hp.ltS _ e; omega
  · have := hp.ref.lt _ e; omega
  · have := hp.box.lt; omega
theorem AgreeX.five {B gr g4 g6 k : Nat} {q : OpD} {X : Nat → Prop} {w0 w : World} (h : AgreeX B gr g4 g6 k q X w0 w) : Agree B gr g4 k w0 w := by
  obtain ⟨now, put, F, S, T, A, c, h1, h2, h3, h4, h5, _⟩ := h
  exact ⟨now, put, F, S, T, A, c, h1, h2, h3, h4, h5⟩
theorem AgreeX.box {B gr g4 g6 k : Nat} {q : OpD} {X : Nat → Prop} {w0 w : World} (h : AgreeX B gr g4 g6 k q X w0 w) : Blk w g6 50 (ocell q).toArray := by
  obtain ⟨now, put, F, S, T, A, c, h1, h2, h3, h4, h5, hX, h6, _⟩ := h
  exact h6
theorem AgreeX.under {B gr g4 g6 k : Nat} {q : OpD} {X : Nat → Prop} {w0 w w' : World} (h : AgreeX B gr g4 g6 k q X w0 w) (hb : Below w.heap.size w w') : AgreeX B gr g4 g6 k q X w0 w' := by
  obtain ⟨now, put, F, S, T, A, c, h1, h2, h3, h4, h5, hX, h6, h7⟩ := h
  have hz := hb.size
  exact ⟨now, put, F, S, T, A, c, h1.under hb, h2, h3, h4, h5, fun b hb => by obtain ⟨x1, x2, x3, x4, x5, x6⟩ := hX b hb; exact ⟨x1, x2, x3, x4, by omega, x6⟩, h6.under hb, h7⟩
/-- Blocks that have come since are the call's own. -/
theorem AgreeX.own {B gr g4 g6 k : Nat} {q : OpD} {X : Nat → Prop} {w0 w w' : World} (h : Agree6 B gr g4 g6 k q w0 w) (hb : Below w.heap.size w w') (hX : ∀ b, X b → w.heap.size ≤ b ∧ b < w'.heap.size) : AgreeX B gr g4 g6 k q X w0 w' := by
  obtain ⟨now, put, F, S, T, A, c, h1, h2, h3, h4, h5, _, h6, h7⟩ := h
  have hlo := h1.lo
  have hbl := h1.box.lt
  have h6l := h6.lt
  refine ⟨now, put, F, S, T, A, c, h1.under hb, h2, h3, h4, h5, fun b hb => ?_, h6.under hb, h7⟩
  have := hX b hb
  exact ⟨fun e => by have := h1.ltS b e; omega, fun e => by have := h1.ref.lt b e; omega, by omega, by omega, this.2, by omega⟩
/-- The call's own blocks may change. -/
theorem AgreeX.keeps {B gr g4 g6 k : Nat} {q : OpD} {X : Nat → Prop} {w0 w w' : World} (h : AgreeX B gr g4 g6 k q X w0 w) (hk : Keeps X w w') : AgreeX B gr g4 g6 k q X w0 w' := by
  obtain ⟨now, put, F, S, T, A, c, h1, h2, h3, h4, h5, hX, h6, h7, h8, h9⟩ := h
  have hz := hk.size
  exact ⟨now, put, F, S, T, A, c, h1.keeps hk (fun b hS hx => (hX b hx).1 hS) (fun b hT hx => (hX b hx).2.1 hT) (fun hx => (hX g4 hx).2.2.1 rfl) (fun b hx => (hX b hx).2.2.2.2.2), h2, h3, h4, h5, fun b hb => by obtain ⟨x1, x2, x3, x4, x5, x6⟩ := hX b hb; exact ⟨x1, x2, x3, x4, by omega, x6⟩, hk.blk h6 (fun hx => (hX g6 hx).2.2.2.1 rfl), h7, h8, h9⟩
theorem AgreeX.drop {B gr g4 g6 k : Nat} {q : OpD} {X : Nat → Prop} {w0 w : World} (h : AgreeX B gr g4 g6 k q X w0 w) : Agree6 B gr g4 g6 k q w0 w := by
  obtain ⟨now, put, F, S, T, A, c, h1, h2, h3, h4, h5, hX, h6⟩ := h
  exact ⟨now, put, F, S, T, A, c, h1, h2, h3, h4, h5, fun b hb => hb.elim, h6⟩
theorem AgreeX.more {B gr g4 g6 k m : Nat} {q : OpD} {X : Nat → Prop} {w0 w : World} (h : AgreeX B gr g4 g6 k q X w0 w) (hm : k ≤ m) : AgreeX B gr g4 g6 m q X w0 w := by
  obtain ⟨now, put, F, S, T, A, c, h1, h2, h3, h4, h5, h6⟩ := h
  exact ⟨now, put, F, S, T, A, c, h1, h2, by omega, by omega, by omega, h6⟩
/-- The store of the document's answer. -/
abbrev stored (w1 : World) (g4 : Nat) (n2 p2 : Int) (A2 : Option Addr) (m2 c2 : Nat) : World := ((w1.setCell ⟨g4, 0, none⟩ (.int .i64 n2)).setCell ⟨g4, 1, none⟩ (.int .i64 p2)).setCell ⟨g4, 2, none⟩ (.slice A2 m2 c2)
/-- The document has answered; the road will answer the same. -/
def StepMid (B gr g4 g6 k : Nat) (q : OpD) (X : Nat → Prop) (w0 w : World) (ans : Value) (f : FuncId) (fargs : Array Value) (e : Ending) (w1 : World) : Prop :=
  ∃ n2 p2 A2 m2 c2, e = .returned (.tuple #[ans, refV n2 p2 A2 m2 c2]) ∧ Below w.heap.size w w1 ∧
    (Blk (stored w1 g4 n2 p2 A2 m2 c2) g6 50 (ocell q).toArray ∧ (stored w1 g4 n2 p2 A2 m2 c2).heap.size = w1.heap.size ∧
      Calls Try.prog f fargs (stored w1 g4 n2 p2 A2 m2 c2) (fun e w3 => e = .returned ans ∧ AgreeX B gr g4 g6 (k + 1) q X w0 w3 ∧ ∀ b, X b → w3.heap[b]? = w.heap[b]?))
/-- What the laws of one call ask for. -/
theorem step_mid {B gr g4 g6 k : Nat} {q : OpD} {X : Nat → Prop} {w0 w : World} {ans : Value} {f : FuncId} {fargs rargs : Array Value} {rf : FuncId} {now put n2 p2 : Int} {F F2 : List MD} {S T : Nat → Prop} {A : Option Addr} {c : Nat}
    (hP : Play B gr g4 now put F S now put F T A c w0 w) (hX : (∀ b, X b → ¬ S b ∧ ¬ T b ∧ b ≠ g4 ∧ b ≠ g6 ∧ b < w.heap.size ∧ B ≤ b)) (h6 : Blk w g6 50 (ocell q).toArray ∧ ¬ S g6 ∧ ¬ T g6 ∧ g6 ≠ g4) (hI2 : FInv n2 p2 F2) (b1 : n2 ≤ k + 1) (b2 : p2 ≤ k + 1) (b3 : F2.length ≤ k + 1)
    (h1 : Calls Try.prog rf rargs w (RAns2 ans n2 p2 F2 T w))
    (h2 : ∀ w2, RoadF B gr now put F S w2 → B ≤ w2.heap.size → Keeps (fun b => b = g4) w w2 → Calls Try.prog f fargs w2 (fun e w3 => e = .returned ans ∧ ((RoadF B gr n2 p2 F2 (Plus S w2 w3) w3 ∧ Keeps S w2 w3) ∨ (n2 = now ∧ p2 = put ∧ F2 = F ∧ Below w2.heap.size w2 w3)))) :
    Calls Try.prog rf rargs w (StepMid B gr g4 g6 k q X w0 w ans f fargs) := by
  refine h1.mono (fun e w1 hh => ?_)
  obtain ⟨A2, c2, rfl, hr, hb⟩ := hh
  have hs := hP.store (n2 := n2) (p2 := p2) hr hb
  have hsz : (stored w1 g4 n2 p2 A2 F2.length c2).heap.size = w1.heap.size := by simp [stored]
  have hz := hb.size
  have hg6 := h6.1.lt
  have x6 : Blk (stored w1 g4 n2 p2 A2 F2.length c2) g6 50 (ocell q).toArray :=
    (((h6.1.under hb).far (p := ⟨g4, 0, none⟩) h6.2.2.2 _).far (p := ⟨g4, 1, none⟩) h6.2.2.2 _).far (p := ⟨g4, 2, none⟩) h6.2.2.2 _
  refine ⟨n2, p2, A2, F2.length, c2, rfl, hb, x6, hsz, (h2 _ hs.road (by have := hs.lo; have := hs.box.lt; omega) (keeps_three (Keeps.under hb (fun b => b = g4)) g4 rfl _ _ _)).mono (fun e w3 h3 => ⟨h3.1, ?_⟩)⟩
  have kk : Keeps (fun b => b = g4) w (stored w1 g4 n2 p2 A2 F2.length c2) := keeps_three (Keeps.under hb (fun b => b = g4)) g4 rfl _ _ _
  have hkz := kk.size
  have oT : ¬ Plus T w w1 g6 := fun e => by
    rcases e with x | x
    · exact h6.2.2.1 x
    · omega
  rcases h3.2 with ⟨x, y⟩ | ⟨rfl, rfl, rfl, y⟩
  · have ht := hs.step x y
    have hy := y.size
    refine ⟨⟨_, _, _, _, _, _, _, ht, hI2, by omega, by omega, by omega, fun b hb' => ?_, y.blk x6 h6.2.1, fun e => ?_, oT, h6.2.2.2⟩, fun b hb' => (y.block b (Nat.lt_of_lt_of_le (hX b hb').2.2.2.2.1 hkz) (hX b hb').1).trans (kk.block b (hX b hb').2.2.2.2.1 (hX b hb').2.2.1)⟩
    · obtain ⟨x1, x2, x3, x4, x5, x7⟩ := hX b hb'
      refine ⟨fun e => ?_, fun e => ?_, x3, x4, by rw [hsz] at hy; omega, x7⟩
      · rcases e with z | z
        · exact x1 z
        · have hz1 := z.1; rw [hsz] at hz1; omega
      · rcases e with z | z
        · exact x2 z
        · omega
    rcases e with z | z
    · exact h6.2.1 z
    · have hz1 := z.1; rw [hsz] at hz1; omega
  · have hy := y.size
    refine ⟨⟨_, _, _, _, _, _, _, hs.under y, hI2, by omega, by omega, by omega, fun b hb' => ?_, x6.under y, h6.2.1, oT, h6.2.2.2⟩, fun b hb' => (y.block b (Nat.lt_of_lt_of_le (hX b hb').2.2.2.2.1 hkz)).trans (kk.block b (hX b hb').2.2.2.2.1 (hX b hb').2.2.1)⟩
    obtain ⟨x1, x2, x3, x4, x5, x7⟩ := hX b hb'
    refine ⟨x1, fun e => ?_, x3, x4, by rw [hsz] at hy; omega, x7⟩
    rcases e with z | z
    · exact x2 z
    · omega
theorem drop_step {B gr g4 g6 k : Nat} {q : OpD} {w0 w : World} (h : Agree6 B gr g4 g6 k q w0 w) (hk : k ≤ 101) :
    ∃ now put A n c, Blk w g4 48 #[.int .i64 now, .int .i64 put, .slice A n c] ∧ ∃ ans : Bool,
      Calls Try.prog 21 #[refV now put A n c, .int .i64 q.i] w (StepMid B gr g4 g6 k q (fun _ => False) w0 w (.bool ans) 17 #[.pointer (some ⟨gr, 0, none⟩), .int .i64 q.i]) := by
  obtain ⟨now, put, F, S, T, A, c, hP, hI, h3, h4, h5, hX, h6⟩ := h
  refine ⟨now, put, A, F.length, c, hP.box, ?_⟩
  by_cases hi : q.i < 0 ∨ (F.length : Int) ≤ q.i
  · refine ⟨false, step_mid hP hX h6 hI (by omega) (by omega) (by omega) (rdrop_bad now put A F.length c q.i F T w hP.ref rfl (by omega) hi) (fun w2 hr hB _ => ?_)⟩
    exact (Fdrop_bad B gr now put F S q.i w2 hr hI hi).mono (fun e w3 hh => ⟨hh.1, .inr ⟨rfl, rfl, rfl, hh.2⟩⟩)
  · obtain ⟨i, hqi⟩ : ∃ i : Nat, q.i = i := ⟨q.i.toNat, by omega⟩
    rw [hqi]
    have hil : i < F.length := by omega
    obtain ⟨b, o, hA⟩ : ∃ b o, A = some ⟨b, o, none⟩ := by
      obtain ⟨G, g1, g2, _⟩ := hP.ref.out
      obtain ⟨b, o, e, _⟩ := g2 (fun e => by
        have := congrArg List.length e
        rw [mcell_len] at this
        have := congrArg List.length g1
        simp at *
        omega)
      exact ⟨b, o, e⟩
    subst hA
    refine ⟨true, step_mid hP hX h6 (hI.sub (List.eraseIdx_sublist F i)) (by omega) (by omega) (by have := List.length_eraseIdx_le F i; omega) (rdrop_ok now put b o F.length c i F T w hP.ref rfl (by omega) hil) (fun w2 hr hB _ => ?_)⟩
    exact (Fdrop_ok B gr now put F S i w2 hr hI hil).mono (fun e w3 hh => ⟨hh.1, .inl hh.2⟩)
theorem double_step {B gr g4 g6 k : Nat} {q : OpD} {w0 w : World} (h : Agree6 B gr g4 g6 k q w0 w) (hk : k ≤ 101) (hB : B ≤ w0.heap.size) :
    ∃ now put A n c, Blk w g4 48 #[.int .i64 now, .int .i64 put, .slice A n c] ∧ ∃ ans : Int,
      Calls Try.prog 22 #[refV now put A n c, .int .i64 q.i] w (StepMid B gr g4 g6 k q (fun _ => False) w0 w (.int .i64 ans) 15 #[.pointer (some ⟨gr, 0, none⟩), .int .i64 q.i]) := by
  obtain ⟨now, put, F, S, T, A, c, hP, hI, h3, h4, h5, hX, h6⟩ := h
  refine ⟨now, put, A, F.length, c, hP.box, ?_⟩
  have hp := hI.pos
  by_cases hi : q.i < 0 ∨ (F.length : Int) ≤ q.i
  · refine ⟨12, step_mid hP hX h6 hI (by omega) (by omega) (by omega) (rdouble_bad now put A F.length c q.i F T w hP.ref rfl (by omega) hi) (fun w2 hr hB _ => ?_)⟩
    exact (Fdouble_bad B gr now put F S q.i w2 hr hI hi).mono (fun e w3 hh => ⟨hh.1, .inr ⟨rfl, rfl, rfl, hh.2⟩⟩)
  · obtain ⟨i, hqi⟩ : ∃ i : Nat, q.i = i := ⟨q.i.toNat, by omega⟩
    rw [hqi]
    obtain ⟨m, hm⟩ : ∃ m, F[i]? = some m := ⟨_, List.getElem?_eq_getElem (by omega)⟩
    have hmem := List.mem_of_getElem? hm
    have hs := hI.small m hmem
    refine ⟨0, step_mid hP hX h6 (hI.add (d := ⟨m.due, put, m.addr, m.down, m.bs⟩) rfl (hI.due m hmem) (by omega) hs (hI.addr m hmem) (by omega)) (by omega) (by omega) (by rw [insB_len]; omega) (rdouble_ok now put A F.length c i m F T w hP.ref rfl (by omega) hm (by omega) (by omega)) (fun w2 hr hB2 _ => ?_)⟩
    exact (Fdouble_ok B gr now put F S i m w2 hr hI hm (by omega) hB2).mono (fun e w3 hh => ⟨hh.1, .inl hh.2⟩)
theorem late_step {B gr g4 g6 k : Nat} {q : OpD} {w0 w : World} (h : Agree6 B gr g4 g6 k q w0 w) (hk : k ≤ 101) :
    ∃ now put A n c, Blk w g4 48 #[.int .i64 now, .int .i64 put, .slice A n c] ∧ ∃ ans : Int,
      Calls Try.prog 23 #[refV now put A n c, .int .i64 q.i, .int .i64 q.n] w (StepMid B gr g4 g6 k q (fun _ => False) w0 w (.int .i64 ans) 24 #[.pointer (some ⟨gr, 0, none⟩), .int .i64 q.i, .int .i64 q.n]) := by
  obtain ⟨now, put, F, S, T, A, c, hP, hI, h3, h4, h5, hX, h6⟩ := h
  refine ⟨now, put, A, F.length, c, hP.box, ?_⟩
  have hp := hI.pos
  cases hb : lateB q.n
  · refine ⟨1, step_mid hP hX h6 hI (by omega) (by omega) (by omega) (rlate_bad now put A F.length c q.i q.n F T w hP.ref rfl (by omega) hb) (fun w2 hr hB _ => ?_)⟩
    exact (late_bad _ q.i q.n w2 hb).mono (fun e w3 hh => ⟨hh.1, .inr ⟨rfl, rfl, rfl, by rw [← hh.2]; exact Below.refl _ _⟩⟩)
  · by_cases hi : q.i < 0 ∨ (F.length : Int) ≤ q.i
    · refine ⟨12, step_mid hP hX h6 hI (by omega) (by omega) (by omega) (rlate_out now put A F.length c q.i q.n F T w hP.ref rfl (by omega) hi hb) (fun w2 hr hB _ => ?_)⟩
      exact (Flate_out B gr now put q.n F S q.i w2 hr hI hi hb).mono (fun e w3 hh => ⟨hh.1, .inr ⟨rfl, rfl, rfl, hh.2⟩⟩)
    · obtain ⟨i, hqi⟩ : ∃ i : Nat, q.i = i := ⟨q.i.toNat, by omega⟩
      rw [hqi]
      obtain ⟨m, hm⟩ : ∃ m, F[i]? = some m := ⟨_, List.getElem?_eq_getElem (by omega)⟩
      have hmem := List.mem_of_getElem? hm
      have hs := hI.small m hmem
      refine ⟨0, step_mid hP hX h6 (hI.late hm (late_parts hb).1) (by omega) (by omega) (by rw [insB_len, List.length_eraseIdx, if_pos (getElem?_lt hm)]; omega) (rlate_ok now put A F.length c i m q.n F T w hP.ref rfl (by omega) hm (by omega) (by omega) (hI.due m hmem) hb) (fun w2 hr hB2 _ => ?_)⟩
      exact (Flate_ok B gr now put q.n F S i m w2 hr hI hm hb).mono (fun e w3 hh => ⟨hh.1, .inl ⟨hh.2.1.mono (fun b hb => .inl hb), hh.2.2⟩⟩)
/-- A row whose block is as it was. -/
theorem OwnR.same {w w' : World} {base : Nat} {e : TypeId} {size n : Nat} {v : Value} {xs : List Value} (h : OwnR w base e size v n xs) (hz : w.heap.size ≤ w'.heap.size) (he : ∀ b, v.ownBlock = some b → w'.heap[b]? = w.heap[b]?) : OwnR w' base e size v n xs := by
  refine ⟨h.1, ?_⟩
  rcases h.2 with h0 | ⟨g, cap, cur, hv, hb, hh, h1⟩
  · exact .inl h0
  · exact .inr ⟨g, cap, cur, hv, hb, (he g (by rw [hv]; rfl)).trans hh, h1⟩
theorem send_step {B gr g4 g6 k : Nat} {q : OpD} {X : Nat → Prop} {w0 w : World} (h : AgreeX B gr g4 g6 k q X w0 w) (hk : k ≤ 101) (Bc : Option Addr) (cc : Nat) (hr : ReadI w .u8 q.A q.bs) (hc : ReadI w .u8 Bc q.bs) (hBX : ∀ b o, Bc = some ⟨b, o, none⟩ → X b) (hl : q.bs.length ≤ 1000) :
    ∃ now put A n c, Blk w g4 48 #[.int .i64 now, .int .i64 put, .slice A n c] ∧ ∃ ans : Int,
      Calls Try.prog 18 #[refV now put A n c, gramV q.addr q.down q.A q.bs.length q.c, .int .i64 q.n] w (StepMid B gr g4 g6 k q X w0 w (.int .i64 ans) 12 #[.pointer (some ⟨gr, 0, none⟩), gramV q.addr q.down Bc q.bs.length cc, .int .i64 q.n]) := by
  obtain ⟨now, put, F, S, T, A, c, hP, hI, h3, h4, h5, hX, h6⟩ := h
  refine ⟨now, put, A, F.length, c, hP.box, ?_⟩
  have hp := hI.pos
  cases hb : sendB q.addr q.n q.bs.length
  · refine ⟨1, step_mid hP hX h6 hI (by omega) (by omega) (by omega) (rsend_bad now put q.addr q.down A F.length c q.A q.bs.length q.c q.n F T w hP.ref rfl hb (by omega)) (fun w2 hr2 hB _ => ?_)⟩
    exact (send_bad _ q.addr q.down Bc q.bs.length cc q.n w2 hb (by omega)).mono (fun e w3 hh => ⟨hh.1, .inr ⟨rfl, rfl, rfl, hh.2⟩⟩)
  · obtain ⟨d1, d2, d3, d4, d5⟩ := send_parts hb
    refine ⟨0, step_mid hP hX h6 (hI.add (d := ⟨now + q.n, put, q.addr, q.down, q.bs⟩) rfl ⟨by simp only; omega, by simp only; omega⟩ (by omega) (by simp only; omega) ⟨d4, d5⟩ (by omega)) (by omega) (by omega) (by rw [insB_len]; omega) (rsend_ok now put q.addr q.down A F.length c q.A q.bs.length q.c q.bs q.n F T w hP.ref rfl (by omega) hb hr rfl (by omega)) (fun w2 hr2 hB2 hk2 => ?_)⟩
    have hc2 := hk2.readI hc (fun b o e => (hX b (hBX b o e)).2.2.1)
    exact (Fsend_ok B gr now put F S q.addr q.down Bc q.bs.length cc q.bs q.n w2 hr2 hI (by omega) hb hB2 hc2 rfl).mono (fun e w3 hh => ⟨hh.1, .inl hh.2⟩)
end Go.Proofs.Ytkodmoeohffjhaa
