/- Road.Drop, Road.Double walked. -/
import Derived.Test.YtkodmoeohffjhaaRoAt
namespace Go.Proofs.Ytkodmoeohffjhaa
open Go.RowKit Go.Proofs.Ytkodmoeohffjhaa.Hp
set_option linter.unusedVariables false
set_option linter.unusedSimpArgs false

theorem drop_none (p : Option Addr) (i : Int) (w : World) (hP : Calls Try.prog 29 #[.pointer p, .int .i64 i] w fun e w' => e = .returned (.int .i64 (-1)) ∧ Below w.heap.size w w') :
    Calls Try.prog 17 #[.pointer p, .int .i64 i] w fun e w' => e = .returned (.bool false) ∧ Below w.heap.size w w' := by
  go_enter Try.func17, Try.ntmps17
  go_wp2_with (go_at_call 29; refine hP.mono ?_; rintro e w1 ⟨rfl, hb⟩)
  go_ret
  exact ⟨rfl, hb⟩
theorem drop_nil (i : Int) (w : World) : Calls Try.prog 17 #[.pointer none, .int .i64 i] w fun e w' => e = .returned (.bool false) ∧ Below w.heap.size w w' := drop_none none i w (place_nil i w)
theorem drop_bad (B gr : Nat) (now put : Int) (v : Value) (L : List ME) (i : Int) (w : World) (h : RoadAt B gr now put v L w) (hL : L.length < 99999) (hi : i < 0 ∨ (L.length : Int) ≤ i) :
    Calls Try.prog 17 #[.pointer (some ⟨gr, 0, none⟩), .int .i64 i] w fun e w' => e = .returned (.bool false) ∧ Below w.heap.size w w' := drop_none _ i w (place_bad B gr now put v L i w h hL hi)
theorem hremove_any (base gr : Nat) (x y v : Value) (n i : Nat) (L : List ME) (q : ME) (w : World) (h : Fly w base gr x y v L) (hl : L.length = n + 1) (hm : n < 999999) (hH : Heap mlt L L.length) (hq : L[i]? = some q) :
    Calls Try.prog 30 #[.iface 74 (.pointer (some ⟨gr, 2, none⟩)), .int .i64 i] w fun e w' => e = .returned (.iface 71 (mailV q)) ∧ HPopped base gr x y v n L q w w' := by
  have hi := getElem?_lt hq
  by_cases h1 : i = n
  · subst h1; exact hremove_last base gr x y v i L q w h hl hm hH hq
  · exact hremove_mid base gr x y v n i L q w h hl hm hH (by omega) hq
/-- What Drop leaves. -/
def RDropped (B gr : Nat) (now put : Int) (v : Value) (L : List ME) (i : Nat) (w w' : World) : Prop :=
  ∃ q v' L', Ith L i q ∧ L.Perm (q :: L') ∧ RoadAt B gr now put v' L' w' ∧ Keeps (Two gr v) w w' ∧ v'.ownBlock = v.ownBlock
set_option maxHeartbeats 1000000 in
set_option maxRecDepth 100000 in
theorem drop_ok (B gr : Nat) (now put : Int) (v : Value) (L : List ME) (i : Nat) (w : World) (h : RoadAt B gr now put v L w) (hI : RInv now put L) (hi : i < L.length) :
    Calls Try.prog 17 #[.pointer (some ⟨gr, 0, none⟩), .int .i64 i] w fun e w' => e = .returned (.bool true) ∧ RDropped B gr now put v L i w w' := by
  have hL := hI.len
  have HP := Lib.hid (place_any B gr now put v L i w h (by omega) hi hI.nums)
  obtain ⟨n, hn⟩ : ∃ n, L.length = n + 1 := ⟨L.length - 1, by omega⟩
  have HN := Lib.hid hn
  have HH := Lib.hid h
  clear h hI hn
  go_enter Try.func17, Try.ntmps17
  go_wp2_with (first
    | (go_at_call 29; refine HP.out.mono ?_; rintro e w1 ⟨k, q, D, rfl, hD1, hD2, hD3, hk, hb⟩; have HD := Lib.hid (show Ith L i q from ⟨D, hD1, hD2, hD3⟩); have HB := Lib.hid hb; have HK := Lib.hid hk; clear hb hk hD1 hD2 hD3)
    | (go_at_call 30; refine (hremove_any B gr _ _ v n k L q w1 (HH.out.under HB.out).fly HN.out (by have := HN.out; omega) HH.out.heap HK.out).mono ?_; rintro e w2 ⟨rfl, hp⟩; have HPP := Lib.hid hp; clear hp))
  go_ret
  obtain ⟨v', L', h1, h2, h3, h4, h5, h6⟩ := HPP.out
  exact ⟨rfl, q, v', L', HD.out, h1, ((HH.out.under HB.out).popped h1 h3 h2 h4 h5 h6).1, (Keeps.under HB.out _).trans h5 (fun _ h _ => h), h6⟩
theorem double_nil (i : Int) (w : World) : Calls Try.prog 15 #[.pointer none, .int .i64 i] w fun e w' => e = .returned (.int .i64 1) ∧ w = w' := by
  go_enter Try.func15, Try.ntmps15
  go_wp2_with fail
  go_ret
  exact ⟨rfl, rfl⟩
theorem double_bad (B gr : Nat) (now put : Int) (v : Value) (L : List ME) (i : Int) (w : World) (h : RoadAt B gr now put v L w) (hL : L.length < 99999) (hi : i < 0 ∨ (L.length : Int) ≤ i) :
    Calls Try.prog 15 #[.pointer (some ⟨gr, 0, none⟩), .int .i64 i] w fun e w' => e = .returned (.int .i64 12) ∧ Below w.heap.size w w' := by
  have hP := place_bad B gr now put v L i w h hL hi
  clear h hi
  go_enter Try.func15, Try.ntmps15
  go_wp2_with (go_at_call 29; refine hP.mono ?_; rintro e w1 ⟨rfl, hb⟩)
  go_ret
  exact ⟨rfl, hb⟩
set_option maxRecDepth 100000 in
theorem double_full (B gr : Nat) (now put : Int) (v : Value) (L : List ME) (i : Nat) (w : World) (h : RoadAt B gr now put v L w) (hI : RInv now put L) (hi : i < L.length) (hf : 4096 ≤ L.length) :
    Calls Try.prog 15 #[.pointer (some ⟨gr, 0, none⟩), .int .i64 i] w fun e w' => e = .returned (.int .i64 11) ∧ Below w.heap.size w w' := by
  have hL := hI.len
  have HP := Lib.hid (place_any B gr now put v L i w h (by omega) hi hI.nums)
  obtain ⟨A0, c0, rfl, _, _⟩ := OwnR.form h.fly.own
  have c2 : w.cell? ⟨gr, 2, none⟩ = some (.slice A0 L.length c0) := h.fly.blk.cell 2
  have lt := h.lt
  clear h hI
  go_enter Try.func15, Try.ntmps15
  go_wp2_with (go_at_call 29; refine HP.out.mono ?_; rintro e w1 ⟨k, q, D, rfl, hD1, hD2, hD3, hk, hb⟩; have HB := Lib.hid hb; have c2' := (hb.cell (p := ⟨gr, 2, none⟩) lt).trans c2; clear hb hk hD1 hD2 hD3)
  go_ret
  exact ⟨rfl, HB.out⟩
set_option maxHeartbeats 2000000 in
set_option maxRecDepth 100000 in
theorem double_ok (B gr : Nat) (now put : Int) (v : Value) (L : List ME) (i : Nat) (w : World) (h : RoadAt B gr now put v L w) (hI : RInv now put L) (hi : i < L.length) (hf : L.length < 4096) (hB : B ≤ w.heap.size) :
    Calls Try.prog 15 #[.pointer (some ⟨gr, 0, none⟩), .int .i64 i] w fun e w' => e = .returned (.int .i64 0) ∧ ∃ q, Ith L i q ∧ RAdded B gr now put v L ⟨q.1.due, put, q.1.addr, q.1.down, q.1.bs⟩ w w' := by
  have HP := Lib.hid (place_any B gr now put v L i w h (by omega) hi hI.nums)
  obtain ⟨g, c, rfl⟩ := h.fly.form (by rintro rfl; simp at hi)
  have c2 : w.cell? ⟨gr, 2, none⟩ = some (.slice (some ⟨g, 0, none⟩) L.length c) := h.fly.blk.cell 2
  have lt := h.lt
  have HH := Lib.hid h
  have HI := Lib.hid hI
  obtain ⟨p0, p1, p2, p3⟩ := hI.pos
  clear h hI
  go_enter Try.func15, Try.ntmps15
  go_upto_region 8 with (go_at_call 29; refine HP.out.mono ?_; rintro e w1 ⟨k, q, D, rfl, hD1, hD2, hD3, hk, hb⟩; have HD := Lib.hid (show Ith L i q from ⟨D, hD1, hD2, hD3⟩); have hkl := getElem?_lt hk; have HB := Lib.hid hb; have c2' := (hb.cell (p := ⟨gr, 2, none⟩) lt).trans c2; obtain ⟨k0, k1, k2, k3, k4⟩ := (HH.out.under hb).cells hk; have hz := hb.size; clear hb hk hD1 hD2 hD3)
  go_region_law (first
    | (go_simp; go_at_call 28; refine (add_any B gr now put _ L q.1.due q.1.addr q.1.down q.2.1 q.1.bs.length q.2.2 q.1.bs _ ((HH.out.under HB.out).under (below_drew (Below.refl _ _))) (by omega) (by simp; omega) (OwnI.read ((HH.out.under HB.out).own q HD.out.mem)) rfl (by have := HI.out.small q HD.out.mem; omega) p2 (by omega)).mono ?_; rintro e w2 ⟨rfl, hR⟩; have HR := Lib.hid hR; clear hR))
  all_goals
    go_wp2_with fail
    go_ret
    exact ⟨rfl, q, HD.out, RAdded.from (below_drew HB.out) HR.out⟩
end Go.Proofs.Ytkodmoeohffjhaa
