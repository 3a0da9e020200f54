/- Road.At walked. -/
import Derived.Test.YtkodmoeohffjhaaRoPlace
namespace Go.Proofs.Ytkodmoeohffjhaa
open Go.RowKit Go.Proofs.Ytkodmoeohffjhaa.Hp
set_option linter.unusedVariables false
set_option linter.unusedSimpArgs false

/-- What is known of what is under way, as data. -/
structure RInv (now put : Int) (L : List ME) : Prop where
  nums : Nums L
  num : ∀ q ∈ L, 0 ≤ q.1.number ∧ q.1.number < put
  due : ∀ q ∈ L, now < q.1.due ∧ q.1.due ≤ now + 64
  len : L.length ≤ 4096
  small : ∀ q ∈ L, q.1.bs.length ≤ 542
  addr : ∀ q ∈ L, 0 ≤ q.1.addr ∧ q.1.addr ≤ 255
  pos : 0 ≤ now ∧ now < 1000000 ∧ 0 ≤ put ∧ put < 1000000
/-- The i-th in order. -/
def Ith (L : List ME) (i : Nat) (q : ME) : Prop := ∃ D : List ME, D.Perm L ∧ D.Pairwise (fun a b => mlt b a = false) ∧ D[i]? = some q
theorem Ith.mem {L : List ME} {i : Nat} {q : ME} (h : Ith L i q) : q ∈ L := by obtain ⟨D, hp, _, hq⟩ := h; exact hp.mem_iff.1 (List.mem_of_getElem? hq)
/-- The five cells of the k-th mail of the road. -/
theorem RoadAt.cells {B gr g c n k : Nat} {now put : Int} {L : List ME} {q : ME} {w : World} (h : RoadAt B gr now put (.slice (some ⟨g, 0, none⟩) n c) L w) (hq : L[k]? = some q) :
    w.cell? ⟨g, k * 5, none⟩ = some (.int .i64 q.1.due) ∧ w.cell? ⟨g, k * 5 + 1, none⟩ = some (.int .i64 q.1.number) ∧ w.cell? ⟨g, k * 5 + 2, none⟩ = some (.int .i64 q.1.addr) ∧ w.cell? ⟨g, k * 5 + 3, none⟩ = some (.bool q.1.down) ∧ w.cell? ⟨g, k * 5 + 4, none⟩ = some (.slice q.2.1 q.1.bs.length q.2.2) := by
  have hk := fun j u hu => OwnR.cell h.fly.own (k * 5 + j) u hu
  have h5 := fun j (hj : j < 5) => mcell_at L k q hq j hj
  exact ⟨hk 0 _ (h5 0 (by omega)), hk 1 _ (h5 1 (by omega)), hk 2 _ (h5 2 (by omega)), hk 3 _ (h5 3 (by omega)), hk 4 _ (h5 4 (by omega))⟩
theorem getElem?_lt {α : Type} {L : List α} {k : Nat} {q : α} (h : L[k]? = some q) : k < L.length := by
  rcases Nat.lt_or_ge k L.length with h1 | h1
  · exact h1
  · rw [List.getElem?_eq_none h1] at h; cases h
/-- What At answers. -/
def RAtOk (L : List ME) (i : Nat) (w : World) (e : Ending) (w' : World) : Prop :=
  ∃ q A c, Ith L i q ∧ e = .returned (.tuple #[gramV q.1.addr q.1.down A q.1.bs.length c, .bool true]) ∧ OwnB w' w.heap.size A c q.1.bs ∧ Below w.heap.size w w'
theorem below_new {w w1 : World} {o : Obj} (h : Below (w.alloc o).heap.size (w.alloc o) w1) : Below w.heap.size w w1 ∧ w.heap.size < w1.heap.size := by
  have hz := h.size
  simp at hz
  exact ⟨(below_alloc (Below.refl w.heap.size w) o).trans (h.mono (by simp)), by omega⟩
set_option maxRecDepth 100000 in
theorem at_none (p : Option Addr) (i : Int) (w : World) (hP : ∀ W, Below w.heap.size w W → Calls Try.prog 29 #[.pointer p, .int .i64 i] W fun e w' => e = .returned (.int .i64 (-1)) ∧ Below W.heap.size W w') :
    Calls Try.prog 26 #[.pointer p, .int .i64 i] w fun e w' => e = .returned (.tuple #[gramV 0 false none 0 0, .bool false]) ∧ Below w.heap.size w w' := by
  have HP := Lib.hid hP
  clear hP
  go_enter Try.func26, Try.ntmps26
  go_wp2_with (go_at_call 29; refine (HP.out _ (below_alloc (Below.refl _ _) _)).mono ?_; rintro e w1 ⟨rfl, hb⟩; obtain ⟨hb0, hz⟩ := below_new hb; have hX := (Blk.new w _ _).under hb; have y0 := hX.cell 0; have y1 := hX.cell 1; have y2 := hX.cell 2; have f0 := hX.frozen 0; have f1 := hX.frozen 1; have f2 := hX.frozen 2; simp at y0 y1 y2)
  refine bodyPost_ret (v := .tuple #[gramV 0 false none 0 0, .bool false]) (by simp [results, Try.results26, go_sem, y0, y1, y2]) rfl ⟨rfl, ?_⟩
  exact ((hb0.setCell (by simp) _).setCell (by simp) _).setCell (by simp) _
theorem at_nil (i : Int) (w : World) : Calls Try.prog 26 #[.pointer none, .int .i64 i] w fun e w' => e = .returned (.tuple #[gramV 0 false none 0 0, .bool false]) ∧ Below w.heap.size w w' := at_none none i w (fun W _ => place_nil i W)
theorem at_bad (B gr : Nat) (now put : Int) (v : Value) (L : List ME) (i : Int) (w : World) (h : RoadAt B gr now put v L w) (hL : L.length < 99999) (hi : i < 0 ∨ (L.length : Int) ≤ i) :
    Calls Try.prog 26 #[.pointer (some ⟨gr, 0, none⟩), .int .i64 i] w fun e w' => e = .returned (.tuple #[gramV 0 false none 0 0, .bool false]) ∧ Below w.heap.size w w' := at_none _ i w (fun W hb => place_bad B gr now put v L i W (h.under hb) hL hi)
set_option maxHeartbeats 1000000 in
set_option maxRecDepth 100000 in
theorem at_ok (B gr : Nat) (now put : Int) (v : Value) (L : List ME) (i : Nat) (w : World) (h : RoadAt B gr now put v L w) (hI : RInv now put L) (hi : i < L.length) :
    Calls Try.prog 26 #[.pointer (some ⟨gr, 0, none⟩), .int .i64 i] w (RAtOk L i w) := by
  have hL := hI.len
  have HP := Lib.hid (fun W (hb : Below w.heap.size w W) => place_any B gr now put v L i W (h.under hb) (by omega) hi hI.nums)
  obtain ⟨g, c, rfl⟩ := h.fly.form (by rintro rfl; simp at hi)
  have HH := Lib.hid h
  have HI := Lib.hid hI
  have lt := h.lt
  have c2 : w.cell? ⟨gr, 2, none⟩ = some (.slice (some ⟨g, 0, none⟩) L.length c) := h.fly.blk.cell 2
  clear h hI
  go_enter Try.func26, Try.ntmps26
  go_wp2_with (first
    | (go_at_call 29; refine (HP.out _ (below_alloc (Below.refl _ _) _)).mono ?_; rintro e w1 ⟨k, q, D, rfl, hD1, hD2, hD3, hk, hb⟩; have HD := Lib.hid (show Ith L i q from ⟨D, hD1, hD2, hD3⟩); have hkl := getElem?_lt hk; obtain ⟨hb0, hz⟩ := below_new hb; have hX := (Blk.new w _ _).under hb; have HB0 := Lib.hid hb0; have c2' := (hb0.cell (p := ⟨gr, 2, none⟩) lt).trans c2; obtain ⟨_, _, k2, k3, k4⟩ := (HH.out.under hb0).cells hk; have HX := Lib.hid hX; clear hX hb hb0 hD1 hD2 hD3 hk)
    | (go_at_call 34; refine (clone_any _ _ _ _ _ q.1.bs _ (OwnI.read ((HH.out.under HB0.out).own q HD.out.mem)) rfl (by have := HI.out.small q HD.out.mem; omega)).mono ?_; rintro e w2 ⟨A2, c2, rfl, ho2, hb2⟩; have hX2 := HX.out.under hb2; have y0 := hX2.cell 0; have y1 := hX2.cell 1; have y2 := hX2.cell 2; have f0 := hX2.frozen 0; have f1 := hX2.frozen 1; have f2 := hX2.frozen 2; simp at y0 y1 y2; have hz2 := hb2.size; have HO2 := Lib.hid ho2; have HB2 := Lib.hid hb2; clear ho2 hb2 hX2))
  refine bodyPost_ret (v := .tuple #[gramV q.1.addr q.1.down A2 q.1.bs.length c2, .bool true]) (by simp [results, Try.results26, go_sem, y0, y1, y2]) rfl ?_
  have k : Keeps (fun b => b = w.heap.size) w2 (((w2.setCell ⟨w.heap.size, 0, none⟩ (.int .i64 q.1.addr)).setCell ⟨w.heap.size, 1, none⟩ (.bool q.1.down)).setCell ⟨w.heap.size, 2, none⟩ (.slice A2 q.1.bs.length c2)) :=
    (((Keeps.refl (fun b => b = w.heap.size) w2).setCell (p := ⟨w.heap.size, 0, none⟩) (.inl rfl) _).setCell (p := ⟨w.heap.size, 1, none⟩) (.inl rfl) _).setCell (p := ⟨w.heap.size, 2, none⟩) (.inl rfl) _
  have hb := HB0.out.trans (HB2.out.mono HB0.out.size)
  refine ⟨q, A2, c2, HD.out, rfl, ?_, Keeps.below hb k hb.size (fun b e => by omega)⟩
  exact OwnI.mono (k.own HO2.out (fun b hb e => by have := (OwnI.lt HO2.out b hb).1; omega)) (by omega)
end Go.Proofs.Ytkodmoeohffjhaa
