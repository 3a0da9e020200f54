/- One Tick at the document's road and at the road: what came, and what becomes of it. -/
import Derived.Test.YtkodmoeohffjhaaRoPlayS
namespace Go.Proofs.Ytkodmoeohffjhaa
open Go.RowKit Go.Proofs.Ytkodmoeohffjhaa.Hp
set_option linter.unusedVariables false
set_option linter.unusedSimpArgs false

/-- Datagrams that came: bytes of one's own, apart from one another. -/
structure Came (w : World) (B : Nat) (A : Option Addr) (O : List ME) (X : Nat → Prop) : Prop where
  row : ReadC w A (O.flatMap gcell)
  offA : ∀ b o x, A = some ⟨b, o, x⟩ → ¬ X b
  bytes : ∀ q ∈ O, Bytes w B q.2.1 q.1.bs.length q.2.2
  apart : O.Pairwise Apart
  blk : ∀ q ∈ O, ∀ b, q.blk = some b → X b
theorem Came.under {w w' : World} {B : Nat} {A : Option Addr} {O : List ME} {X : Nat → Prop} (h : Came w B A O X) (hb : Below w.heap.size w w') : Came w' B A O X :=
  ⟨h.row.under hb, h.offA, fun q hq => (h.bytes q hq).under hb, h.apart, h.blk⟩
theorem Came.cell {w : World} {B : Nat} {A : Option Addr} {O : List ME} {X : Nat → Prop} {k : Nat} {q : ME} (h : Came w B A O X) (hq : O[k]? = some q) :
    ∃ b o, A = some ⟨b, o, none⟩ ∧ w.cell? ⟨b, o + k * 3 + 2, none⟩ = some (.slice q.2.1 q.1.bs.length q.2.2) := by
  have hG : O.flatMap gcell ≠ [] := fun e => by
    have := congrArg List.length e
    rw [gcell_len] at this
    have := getElem?_lt hq
    simp at *
    omega
  obtain ⟨b, o, rfl, hc⟩ := h.row hG
  exact ⟨b, o, rfl, by have := hc _ _ (gcell_at O k q hq 2 (by omega)); rwa [← Nat.add_assoc] at this⟩
theorem apart_mem {O : List ME} (h : O.Pairwise Apart) {p q : ME} (hp : p ∈ O) (hq : q ∈ O) (hne : p ≠ q) : Apart p q := by
  obtain ⟨i, hi, rfl⟩ := List.getElem_of_mem hp
  obtain ⟨j, hj, rfl⟩ := List.getElem_of_mem hq
  rw [List.pairwise_iff_getElem] at h
  rcases Nat.lt_trichotomy i j with x | x | x
  · exact h i j hi hj x
  · subst x; exact absurd rfl hne
  · exact Apart.symm (h j i hj hi x)
/-- One byte of what came is turned. -/
theorem Came.bump {w : World} {B : Nat} {A : Option Addr} {O : List ME} {X : Nat → Prop} {k j : Nat} {q : ME} (h : Came w B A O X) (hq : O[k]? = some q) (hj : j < q.1.bs.length) :
    ∃ b o g x, A = some ⟨b, o, none⟩ ∧ q.2.1 = some ⟨g, 0, none⟩ ∧ w.cell? ⟨b, o + k * 3 + 2, none⟩ = some (.slice (some ⟨g, 0, none⟩) q.1.bs.length q.2.2) ∧ w.cell? ⟨g, j, none⟩ = some (.int .u8 x) ∧ w.frozen? ⟨g, j, none⟩ = false ∧ X g ∧ ∀ y, Came (w.setCell ⟨g, j, none⟩ (.int .u8 y)) B A O X := by
  obtain ⟨b, o, rfl, hc⟩ := h.cell hq
  have hm := List.mem_of_getElem? hq
  obtain ⟨g, x, e, h1, h2, h3, h4, h5⟩ := (h.bytes q hm).at hj
  have hbk : q.blk = some g := (blk_some q g).2 ⟨0, none, e⟩
  have hX := h.blk q hm g hbk
  refine ⟨b, o, g, x, rfl, e, by rw [hc, e], h3, h4, hX, fun y => ?_⟩
  have kp : Keeps (fun b => b = g) w (w.setCell ⟨g, j, none⟩ (.int .u8 y)) := Keeps.setCell (S := fun b => b = g) (p := ⟨g, j, none⟩) (Keeps.refl _ w) (.inl rfl) _
  refine ⟨kp.readC h.row (fun b' o' e' ex => h.offA b' o' _ e' (ex ▸ hX)), h.offA, fun p hp => ?_, h.apart, h.blk⟩
  by_cases hpq : p = q
  · subst hpq
    exact h5 y
  · obtain ⟨bs, hl, ho⟩ := h.bytes p hp
    exact ⟨bs, hl, kp.own ho (fun b' hb' ex => by
      subst ex
      exact apart_mem h.apart hp hm hpq b' ((blk_some p b').2 (ownBlock_some.1 hb')) hbk)⟩
/-- What the road's Tick has answered, beside the document's. -/
def TickEnd (B gr g4 g6 k : Nat) (q : OpD) (w0 : World) (A1 : Option Addr) (O1 : List ME) (e : Ending) (w3 : World) : Prop :=
  ∃ (O : List ME) (A3 : Option Addr) (c3 : Nat), e = .returned (.slice A3 O.length c3) ∧ GRead w3 A3 O ∧ GRead w3 A1 O1 ∧ O.map gdat = O1.map gdat ∧ O.length < 1000000 ∧ (∀ p ∈ O, p.1.bs.length ≤ 1000000) ∧
    AgreeX B gr g4 g6 (k + 1) q (fun b => ∃ p ∈ O, p.blk = some b) w0 w3 ∧ Came w3 B A3 O (fun b => ∃ p ∈ O, p.blk = some b)
def TickMid (B gr g4 g6 k : Nat) (q : OpD) (w0 w : World) (e : Ending) (w1 : World) : Prop :=
  ∃ (O1 : List ME) (A1 : Option Addr) (c1 : Nat) (n2 p2 : Int) (A2 : Option Addr) (m2 c2 : Nat), e = .returned (.tuple #[.slice A1 O1.length c1, refV n2 p2 A2 m2 c2]) ∧ Below w.heap.size w w1 ∧
    (Blk (stored w1 g4 n2 p2 A2 m2 c2) g6 50 (ocell q).toArray ∧ (stored w1 g4 n2 p2 A2 m2 c2).heap.size = w1.heap.size ∧
      Calls Try.prog 10 #[.pointer (some ⟨gr, 0, none⟩)] (stored w1 g4 n2 p2 A2 m2 c2) (TickEnd B gr g4 g6 k q w0 A1 O1))
/-- The road's answer leaves fewer blocks to it. -/
theorem Play.fewer {B gr g4 : Nat} {now put now' put' n2 p2 : Int} {F F' F2 : List MD} {S S2 T : Nat → Prop} {A : Option Addr} {c : Nat} {w0 w w1 : World} (h : Play B gr g4 now put F S now' put' F' T A c w0 w) (hr : RoadF B gr n2 p2 F2 S2 w1) (hS : ∀ b, S2 b → S b) (k : Keeps S w w1) :
    Play B gr g4 n2 p2 F2 S2 now' put' F' T A c w0 w1 := by
  have hg := h.box.lt
  have hz := k.size
  have hlo := h.lo
  exact ⟨hr, h.ref.keeps k (fun b hT hS => h.apart b hS hT), k.blk h.box h.offS, fun b x => h.apart b (hS b x), fun e => h.offS (hS _ e), h.offT, fun b x => h.lowS b (hS b x), h.lowT, h.lo, fun b x => by have := h.ltS b (hS b x); omega, Keeps.below h.base k (by omega) h.lowS⟩
theorem gdat_map (O : List ME) : O.map gdat = (O.map Prod.fst).map (fun m : MD => (m.addr, m.down, m.bs)) := by rw [List.map_map]; rfl
theorem tick_step {B gr g4 g6 k : Nat} {q : OpD} {w0 w : World} (h : Agree6 B gr g4 g6 k q w0 w) (hk : k ≤ 101) :
    ∃ now put A n c, Blk w g4 48 #[.int .i64 now, .int .i64 put, .slice A n c] ∧
      Calls Try.prog 19 #[refV now put A n c] w (TickMid B gr g4 g6 k q w0 w) := by
  obtain ⟨now, put, F, S, T, A, c, hP, hI, h3, h4, h5, _, h6, h7, h8, h9⟩ := h
  have hp := hI.pos
  refine ⟨now, put, A, F.length, c, hP.box, (rtick_any now put A F.length c F T w hP.ref rfl (by omega) (by omega)).mono (fun e w1 hh => ?_)⟩
  obtain ⟨O1, A1, c1, A2, c2, hO1, rfl, hG1, hT1, hA1, hr, hb⟩ := hh
  rw [drop_due _ _ hI.sort] at *
  rw [take_due _ _ hI.sort] at hO1
  have hs := hP.store (n2 := now + 1) (p2 := put) hr hb
  have hsz : (stored w1 g4 (now + 1) put A2 (F.filter (sinceP (now + 1))).length c2).heap.size = w1.heap.size := by simp [stored]
  have hz := hb.size
  have hg6 := h6.lt
  have hg4 := hP.box.lt
  have kk : Keeps (fun b => b = g4) w1 (stored w1 g4 (now + 1) put A2 (F.filter (sinceP (now + 1))).length c2) := keeps_three (Keeps.refl (fun b => b = g4) _) g4 rfl _ _ _
  have x6 : Blk (stored w1 g4 (now + 1) put A2 (F.filter (sinceP (now + 1))).length c2) g6 50 (ocell q).toArray := kk.blk (h6.under hb) h9
  refine ⟨O1, A1, c1, now + 1, put, A2, _, c2, rfl, hb, x6, hsz, (Ftick B gr now put F S _ hs.road hI).mono (fun e w3 hh => ?_)⟩
  obtain ⟨O, L', v', A3, c3, rfl, hF⟩ := hh
  have hsub : O.map Prod.fst = O1.map Prod.fst := hF.came.trans hO1.symm
  have hOl : O.length ≤ F.length := by
    have := congrArg List.length hF.came
    rw [List.length_map] at this
    rw [this]
    exact List.length_filter_le _ _
  have hbs : ∀ p ∈ O, p.1 ∈ F := fun p hp => by
    have : p.1 ∈ O.map Prod.fst := List.mem_map_of_mem hp
    rw [hF.came] at this
    exact (List.mem_filter.1 this).1
  have hXS : ∀ b, (∃ p ∈ O, p.blk = some b) → S b := fun b ⟨p, hp, e⟩ => hF.gblk p hp b e
  have hkz := hF.keeps.size
  have hOO : ∀ b, Plus T w w1 b → b ≠ g4 ∧ ¬ S b := fun b hb' => ⟨fun e => hs.offT (e ▸ hb'), fun e => hs.apart b e hb'⟩
  refine ⟨O, A3, c3, rfl, hF.read, ?_, by rw [gdat_map, gdat_map, hsub], by omega, fun p hp => by have := hI.small p.1 (hbs p hp); omega, ?_, ?_⟩
  · refine (hG1.keeps kk (fun b o e => ?_) (fun p hp b e => (hOO b (.inl (hT1 p hp b e))).1)).keeps hF.keeps (fun b o e => ?_) (fun p hp b e => (hOO b (.inl (hT1 p hp b e))).2)
    · have := hA1 b o none e; omega
    · have := hA1 b o none e
      exact fun x => by have := hP.ltS b x; omega
  · have hp2 := hs.fewer hF.roadF (fun b x => hF.blks b x) hF.keeps
    refine ⟨_, _, _, _, _, _, _, hp2, hI.tick (by omega), by omega, by omega, by have := List.length_filter_le (sinceP (now + 1)) F; omega, fun b hb' => ?_, hF.keeps.blk x6 h7, fun e => h7 (hF.blks _ e), fun e => ?_, h9⟩
    · obtain ⟨p, hp, e⟩ := hb'
      have hSb := hXS b ⟨p, hp, e⟩
      have := hP.ltS b hSb
      exact ⟨hF.gone.off p hp b e, hs.apart b hSb, fun x => hP.offS (x ▸ hSb), fun x => h7 (x ▸ hSb), by rw [hsz] at hkz; omega, hP.lowS b hSb⟩
    · rcases e with z | z
      · exact h8 z
      · omega
  · refine ⟨OwnR.read hF.row, fun b o x e hX => ?_, fun p hp => ⟨p.1.bs, rfl, hF.gone.own p hp⟩, hF.gone.apart, fun p hp b e => ⟨p, hp, e⟩⟩
    have := Nat.le_trans (Nat.le_of_eq hsz.symm) (OwnR.blocks hF.row b (by rw [e]; rfl)).1
    have := hP.ltS b (hXS b hX)
    omega
end Go.Proofs.Ytkodmoeohffjhaa
