/- fixed walked: the chapter's example. -/
import Derived.Test.YtkodmoeohffjhaaRoFns
namespace Go.Proofs.Ytkodmoeohffjhaa
open Go.RowKit Go.Proofs.Ytkodmoeohffjhaa.Hp
set_option linter.unusedVariables false
set_option linter.unusedSimpArgs false

theorem blk_some (q : ME) (b : Nat) : q.blk = some b ↔ ∃ o x, q.2.1 = some ⟨b, o, x⟩ := by
  obtain ⟨m, A, c⟩ := q
  cases A with
  | none => simp [ME.blk, ME.v, Value.ownBlock]
  | some a =>
    obtain ⟨b', o, x⟩ := a
    simp [ME.blk, ME.v, Value.ownBlock]
theorem GRead.keeps {S : Nat → Prop} {w w' : World} {A : Option Addr} {G : List ME} (h : GRead w A G) (k : Keeps S w w') (h1 : ∀ b o, A = some ⟨b, o, none⟩ → ¬ S b) (h2 : ∀ q ∈ G, ∀ b, q.blk = some b → ¬ S b) : GRead w' A G :=
  ⟨k.readC h.row h1, fun q hq => k.readI (h.bytes q hq) (fun b o e => h2 q hq b ((blk_some q b).2 ⟨o, none, e⟩))⟩
/-- What has come reads as it should. -/
theorem FTick.read {B gr : Nat} {now put : Int} {F : List MD} {S : Nat → Prop} {w w' : World} {O L' : List ME} {v' : Value} {A : Option Addr} {c : Nat} (h : FTick B gr now put F S w O L' v' A c w') : GRead w' A O :=
  ⟨OwnR.read h.row, fun q hq => OwnI.read (h.gone.own q hq)⟩
theorem FTick.roadF {B gr : Nat} {now put : Int} {F : List MD} {S : Nat → Prop} {w w' : World} {O L' : List ME} {v' : Value} {A : Option Addr} {c : Nat} (h : FTick B gr now put F S w O L' v' A c w') : RoadF B gr now put (F.filter (sinceP now)) (RBlk gr v' L') w' := ⟨v', L', h.road, h.same, fun _ h => h⟩
/-- A new row of datagrams. -/
theorem gread_lit {w : World} {t : TypeId} {G : List ME} {cs : Array Value} (hc : cs.toList = G.flatMap gcell) (hb : ∀ q ∈ G, ReadI w .u8 q.2.1 q.1.bs) : GRead (w.alloc (.cells cs t)) (some ⟨w.heap.size, 0, none⟩) G := by
  refine ⟨?_, fun q hq => (hb q hq).under (below_alloc (Below.refl _ _) _)⟩
  have := Blk.read (Blk.new w t cs)
  rwa [hc] at this
abbrev mA : MD := ⟨2, 0, 0, false, [97]⟩
abbrev mB : MD := ⟨1, 1, 0, false, [98]⟩
abbrev mC : MD := ⟨2, 2, 0, false, [99]⟩
abbrev mA2 : MD := ⟨2, 3, 0, false, [97]⟩
theorem inv0 : FInv 0 0 [] := ⟨by decide, by decide, by decide, by decide, by decide, by decide, by decide, by decide⟩
theorem inv1 : FInv 0 1 [mA] := ⟨by decide, by decide, by decide, by decide, by decide, by decide, by decide, by decide⟩
theorem inv2 : FInv 0 2 [mB, mA] := ⟨by decide, by decide, by decide, by decide, by decide, by decide, by decide, by decide⟩
theorem inv3 : FInv 0 3 [mB, mA, mC] := ⟨by decide, by decide, by decide, by decide, by decide, by decide, by decide, by decide⟩
theorem inv4 : FInv 0 4 [mB, mA, mC, mA2] := ⟨by decide, by decide, by decide, by decide, by decide, by decide, by decide, by decide⟩
theorem inv5 : FInv 1 4 [mA, mC, mA2] := ⟨by decide, by decide, by decide, by decide, by decide, by decide, by decide, by decide⟩
theorem ia : ints ⟨#[97]⟩ = [97] := by decide
theorem ib : ints ⟨#[98]⟩ = [98] := by decide
theorem ic : ints ⟨#[99]⟩ = [99] := by decide
/-- One letter's datagram. -/
def OneB (x : Int) (w : World) (e : Ending) (w' : World) : Prop := ∃ A c, e = .returned (gramV 0 false A 1 c) ∧ ReadI w' .u8 A [x] ∧ Below w.heap.size w w'
theorem gram_a (w : World) : Calls Try.prog 16 #[.string ⟨#[97]⟩] w (OneB 97 w) := (gram_any _ w).mono (fun e w' ⟨A, c, h1, h2, _, h4⟩ => ⟨A, c, by rw [h1, ia]; rfl, by rwa [ia] at h2, h4⟩)
theorem gram_b (w : World) : Calls Try.prog 16 #[.string ⟨#[98]⟩] w (OneB 98 w) := (gram_any _ w).mono (fun e w' ⟨A, c, h1, h2, _, h4⟩ => ⟨A, c, by rw [h1, ib]; rfl, by rwa [ib] at h2, h4⟩)
theorem gram_c (w : World) : Calls Try.prog 16 #[.string ⟨#[99]⟩] w (OneB 99 w) := (gram_any _ w).mono (fun e w' ⟨A, c, h1, h2, _, h4⟩ => ⟨A, c, by rw [h1, ic]; rfl, by rwa [ic] at h2, h4⟩)
/-- A road somewhere. -/
def RoadS (B gr : Nat) (now put : Int) (F : List MD) (w : World) : Prop := ∃ S, RoadF B gr now put F S w ∧ (∀ b, S b → B ≤ b)
theorem RoadS.under {B gr : Nat} {now put : Int} {F : List MD} {w w' : World} (h : RoadS B gr now put F w) (hb : Below w.heap.size w w') : RoadS B gr now put F w' := by obtain ⟨S, h1, h2⟩ := h; exact ⟨S, h1.under hb, h2⟩
theorem RoadS.size {B gr : Nat} {now put : Int} {F : List MD} {w : World} (h : RoadS B gr now put F w) : B ≤ w.heap.size := by
  obtain ⟨S, ⟨v, L, h1, _, _⟩, _⟩ := h
  have := h1.lt
  have := h1.base
  omega
theorem Ssend (B gr : Nat) (put : Int) (F G : List MD) (A : Option Addr) (c : Nat) (x d : Int) (w : World) (h : RoadS B gr 0 put F w) (hI : FInv 0 put F) (hL : F.length < 4096) (hd : 1 ≤ d ∧ d ≤ 64) (hr : ReadI w .u8 A [x]) (hG : insB ⟨d, put, 0, false, [x]⟩ F = G) :
    Calls Try.prog 12 #[.pointer (some ⟨gr, 0, none⟩), gramV 0 false A 1 c, .int .i64 d] w fun e w' => e = .returned (.int .i64 0) ∧ RoadS B gr 0 (put + 1) G w' ∧ Keeps (fun b => B ≤ b) w w' := by
  have hz := h.size
  obtain ⟨S, h1, h2⟩ := h
  refine (Fsend_ok B gr 0 put F S 0 false A 1 c [x] d w h1 hI hL (by simp [sendB]; omega) hz hr rfl).mono (fun e w' hh => ⟨hh.1, ?_⟩)
  obtain ⟨h3, h4⟩ := hh.2
  rw [Int.zero_add, hG] at h3
  exact ⟨⟨_, h3, fun b hb => by rcases hb with e | e; exact h2 b e; omega⟩, h4.mono h2⟩
theorem Sdouble (B gr : Nat) (put : Int) (F G : List MD) (i : Nat) (q : MD) (w : World) (h : RoadS B gr 0 put F w) (hI : FInv 0 put F) (hq : F[i]? = some q) (hL : F.length < 4096) (hG : insB ⟨q.due, put, q.addr, q.down, q.bs⟩ F = G) :
    Calls Try.prog 15 #[.pointer (some ⟨gr, 0, none⟩), .int .i64 i] w fun e w' => e = .returned (.int .i64 0) ∧ RoadS B gr 0 (put + 1) G w' ∧ Keeps (fun b => B ≤ b) w w' := by
  have hz := h.size
  obtain ⟨S, h1, h2⟩ := h
  refine (Fdouble_ok B gr 0 put F S i q w h1 hI hq hL hz).mono (fun e w' hh => ⟨hh.1, ?_⟩)
  obtain ⟨h3, h4⟩ := hh.2
  rw [hG] at h3
  exact ⟨⟨_, h3, fun b hb => by rcases hb with e | e; exact h2 b e; omega⟩, h4.mono h2⟩
/-- Behind one Tick. -/
def Tick1 (B gr : Nat) (now put : Int) (F G : List MD) (S0 : Nat → Prop) (e : Ending) (w : World) (w' : World) : Prop :=
  ∃ O A c n S, e = .returned (.slice A n c) ∧ n = O.length ∧ O.map Prod.fst = F ∧ GRead w' A O ∧ RoadF B gr now put G S w' ∧ (∀ b, S b → B ≤ b) ∧ (∀ b o, A = some ⟨b, o, none⟩ → ¬ S b) ∧ (∀ q ∈ O, ∀ b, q.blk = some b → ¬ S b) ∧ Keeps S0 w w'
theorem Stick (B gr : Nat) (now now' put : Int) (F G H : List MD) (S0 : Nat → Prop) (w : World) (h : RoadF B gr now put F S0 w) (h2 : ∀ b, S0 b → B ≤ b) (hI : FInv now put F) (hn : now + 1 = now') (hG : F.filter (dueP now') = G) (hH : F.filter (sinceP now') = H) :
    Calls Try.prog 10 #[.pointer (some ⟨gr, 0, none⟩)] w fun e w' => Tick1 B gr now' put G H S0 e w w' := by
  refine (Ftick B gr now put F S0 w h hI).mono (fun e w' hh => ?_)
  rw [hn] at hh
  obtain ⟨O, L', v', A, c, rfl, hT⟩ := hh
  refine ⟨O, A, c, O.length, RBlk gr v' L', rfl, rfl, by rw [hT.came, hG], hT.read, by have := hT.roadF; rwa [hH] at this, fun b hb => h2 b (hT.blks b hb), fun b o e hb => ?_, fun q hq b hb => hT.gone.off q hq b hb, hT.keeps⟩
  have h1 := hT.old b hb
  subst e
  have := (OwnR.blocks hT.row b rfl).1
  omega
theorem came_gdat {O : List ME} {F : List MD} (h : O.map Prod.fst = F) : O.map gdat = F.map (fun d => (d.addr, d.down, d.bs)) := by rw [← h, List.map_map]; rfl
theorem came_len {O : List ME} {F : List MD} (h : O.map Prod.fst = F) (hb : ∀ d ∈ F, d.bs.length ≤ 1000000) : ∀ q ∈ O, q.1.bs.length ≤ 1000000 := fun q hq => hb q.1 (by rw [← h]; exact List.mem_map.2 ⟨q, hq, rfl⟩)
abbrev gl (A : Option Addr) (c : Nat) (x : Int) : ME := (⟨0, 0, 0, false, [x]⟩, A, c)
set_option maxHeartbeats 4000000 in
set_option maxRecDepth 100000 in
theorem fixed_any (w : World) : Calls Try.prog 8 #[] w fun e w' => e = .returned (.bool true) ∧ Below w.heap.size w w' := by
  have hN := Fnew w
  go_enter Try.func8, Try.ntmps8
  go_upto_region 4 with (go_at_call 7; refine hN.mono ?_; rintro e w1 ⟨rfl, hR, _, hb⟩; have HR1 := Lib.hid (show RoadS w.heap.size w.heap.size 0 0 [] w1 from ⟨_, hR, fun b hb => by rcases hb with e | e; exact e.elim; omega⟩); have HB1 := Lib.hid hb; clear hb hR)
  go_upto_region 5 with (first
    | (go_at_call 16; refine (gram_a w1).mono ?_; rintro e w2 ⟨A2, k2, rfl, hr, hb⟩; have HG2 := Lib.hid hr; have HB2 := Lib.hid hb; clear hr hb)
    | (go_at_call 12; refine (Ssend w.heap.size w.heap.size 0 [] [mA] A2 k2 97 2 w2 (HR1.out.under HB2.out) inv0 (by decide) (by decide) HG2.out (by decide)).mono ?_; rintro e w3 ⟨rfl, hR, hk⟩; have HR3 := Lib.hid hR; have HB3 := Lib.hid (Keeps.below (HB1.out.trans (HB2.out.mono HB1.out.size)) hk (HB1.out.trans (HB2.out.mono HB1.out.size)).size (fun _ h => h)); clear hR hk HG2 HB2 HR1 HB1))
  go_upto_region 6 with (first
    | (go_at_call 16; refine (gram_b w3).mono ?_; rintro e w4 ⟨A4, k4, rfl, hr, hb⟩; have HG4 := Lib.hid hr; have HB4 := Lib.hid hb; clear hr hb)
    | (go_at_call 12; refine (Ssend w.heap.size w.heap.size 1 [mA] [mB, mA] A4 k4 98 1 w4 (HR3.out.under HB4.out) inv1 (by decide) (by decide) HG4.out (by decide)).mono ?_; rintro e w5 ⟨rfl, hR, hk⟩; have HR5 := Lib.hid hR; have HB5 := Lib.hid (Keeps.below (HB3.out.trans (HB4.out.mono HB3.out.size)) hk (HB3.out.trans (HB4.out.mono HB3.out.size)).size (fun _ h => h)); clear hR hk HG4 HB4 HR3 HB3))
  go_upto_region 7 with (first
    | (go_at_call 16; refine (gram_c w5).mono ?_; rintro e w6 ⟨A6, k6, rfl, hr, hb⟩; have HG6 := Lib.hid hr; have HB6 := Lib.hid hb; clear hr hb)
    | (go_at_call 12; refine (Ssend w.heap.size w.heap.size 2 [mB, mA] [mB, mA, mC] A6 k6 99 2 w6 (HR5.out.under HB6.out) inv2 (by decide) (by decide) HG6.out (by decide)).mono ?_; rintro e w7 ⟨rfl, hR, hk⟩; have HR7 := Lib.hid hR; have HB7 := Lib.hid (Keeps.below (HB5.out.trans (HB6.out.mono HB5.out.size)) hk (HB5.out.trans (HB6.out.mono HB5.out.size)).size (fun _ h => h)); clear hR hk HG6 HB6 HR5 HB5))
  go_upto_region 8 with (go_at_call 15; refine (Sdouble w.heap.size w.heap.size 3 [mB, mA, mC] [mB, mA, mC, mA2] 1 mA w7 HR7.out inv3 rfl (by decide) (by decide)).mono ?_; rintro e w8 ⟨rfl, hR, hk⟩; have HR8 := Lib.hid hR; have HB8 := Lib.hid (Keeps.below HB7.out hk HB7.out.size (fun _ h => h)); clear hR hk HR7 HB7)
  obtain ⟨S8, hR8, hS8⟩ := HR8.out
  have HT8 := Lib.hid (Stick w.heap.size w.heap.size 0 1 4 [mB, mA, mC, mA2] [mB] [mA, mC, mA2] S8 w8 hR8 hS8 inv4 rfl (by decide) (by decide))
  have HS8 := Lib.hid hS8
  clear hR8 hS8 HR8
  go_upto_region 9 with (first
    | (go_at_call 10; refine HT8.out.mono ?_; rintro e w9 ⟨O1, A1, c1, n1, S9, rfl, hn1, hO1, hG1, hR9, hS9, ho1, ho2, hk⟩; have HB9 := Lib.hid (Keeps.below HB8.out hk HB8.out.size HS8.out); have HS9 := Lib.hid hS9; have HT9 := Lib.hid (Stick w.heap.size w.heap.size 1 2 4 [mA, mC, mA2] [mA, mC, mA2] [] S9 w9 hR9 hS9 inv5 rfl (by decide) (by decide)); have HN1 := Lib.hid hn1; have HO1 := Lib.hid hO1; have HG1 := Lib.hid (And.intro hG1 (And.intro ho1 (And.intro ho2 (And.intro hR9 hS9)))); clear hn1 hO1 hG1 hR9 hS9 ho1 ho2 hk HB8 HT8)
    | (go_at_call 10; refine HT9.out.mono ?_; rintro e w10 ⟨O2, A2, c2, n2, S10, rfl, hn2, hO2, hG2, hR10, hS10, _, _, hk⟩; have HB10 := Lib.hid (Keeps.below HB9.out hk HB9.out.size HS9.out); have HG10 := Lib.hid (HG1.out.1.keeps hk HG1.out.2.1 HG1.out.2.2.1); have HN2 := Lib.hid hn2; have HO2 := Lib.hid hO2; have HG2 := Lib.hid hG2; have HK10 := Lib.hid hk; clear hn2 hO2 hG2 hR10 hS10 hk HB9 HT9))
  clear HG1 HK10
  go_wp2_with (first
    | (go_at_call 16; refine (gram_b w10).mono ?_; rintro e w11 ⟨A11, k11, rfl, hr, hb⟩; have HG11 := Lib.hid hr; have HB11 := Lib.hid (HB10.out.trans (hb.mono HB10.out.size)); have HC11 := Lib.hid (HG10.out.under hb); have HD11 := Lib.hid (HG2.out.under hb); clear hr hb HB10 HG10 HG2)
    | (go_at_call 20; refine (gsame_any A1 _ n1 1 c1 1 O1 [gl A11 k11 98] _ (HC11.out.under (below_alloc (Below.refl _ _) _)) (gread_lit rfl (fun q hq => by rw [List.mem_singleton.1 hq]; exact HG11.out)) HN1.out rfl (by rw [came_gdat HO1.out]; rfl) (by have := congrArg List.length HO1.out; simp at this; omega) (came_len HO1.out (by decide))).mono ?_; rintro e w12 ⟨rfl, hb⟩; have hb0 := (below_alloc (Below.refl _ _) _).trans (hb.mono (by simp)); have HB12 := Lib.hid (HB11.out.trans (hb0.mono HB11.out.size)); have HD12 := Lib.hid (HD11.out.under hb0); clear hb hb0 HB11 HC11 HD11 HG11)
    | (go_at_call 16; refine (gram_a w12).mono ?_; rintro e w13 ⟨A13, k13, rfl, hr, hb⟩; have HG13 := Lib.hid hr; have HB13 := Lib.hid (HB12.out.trans (hb.mono HB12.out.size)); have HD13 := Lib.hid (HD12.out.under hb); clear hr hb HB12 HD12)
    | (go_at_call 16; refine (gram_c w13).mono ?_; rintro e w14 ⟨A14, k14, rfl, hr, hb⟩; have HG14 := Lib.hid (And.intro (HG13.out.under hb) hr); have HB14 := Lib.hid (HB13.out.trans (hb.mono HB13.out.size)); have HD14 := Lib.hid (HD13.out.under hb); clear hr hb HB13 HD13 HG13)
    | (go_at_call 16; refine (gram_a w14).mono ?_; rintro e w15 ⟨A15, k15, rfl, hr, hb⟩; have HG15 := Lib.hid (And.intro (HG14.out.1.under hb) (And.intro (HG14.out.2.under hb) hr)); have HB15 := Lib.hid (HB14.out.trans (hb.mono HB14.out.size)); have HD15 := Lib.hid (HD14.out.under hb); clear hr hb HB14 HD14 HG14)
    | (go_at_call 20; refine (gsame_any A2 _ n2 3 c2 3 O2 [gl A13 k13 97, gl A14 k14 99, gl A15 k15 97] _ (HD15.out.under (below_alloc (Below.refl _ _) _)) (gread_lit rfl (fun q hq => by simp at hq; rcases hq with rfl | rfl | rfl; exact HG15.out.1; exact HG15.out.2.1; exact HG15.out.2.2)) HN2.out rfl (by rw [came_gdat HO2.out]; rfl) (by have := congrArg List.length HO2.out; simp at this; omega) (came_len HO2.out (by decide))).mono ?_; rintro e w16 ⟨rfl, hb⟩; have hb0 := (below_alloc (Below.refl _ _) _).trans (hb.mono (by simp)); have HB16 := Lib.hid (HB15.out.trans (hb0.mono HB15.out.size)); clear hb hb0 HB15 HD15 HG15))
  go_ret
  exact ⟨rfl, HB16.out⟩
end Go.Proofs.Ytkodmoeohffjhaa
