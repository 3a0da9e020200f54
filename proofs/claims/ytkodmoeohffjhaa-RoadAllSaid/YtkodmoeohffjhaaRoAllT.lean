/- The law RoadAll's closure walked: one tick. -/
import Derived.Test.YtkodmoeohffjhaaRoAllM
namespace Go.Proofs.Ytkodmoeohffjhaa
open Go.RowKit Go.Proofs.Ytkodmoeohffjhaa.Hp
set_option linter.unusedVariables false
set_option linter.unusedSimpArgs false

section
variable {a : AAdr} {nb now : Int} {n : Nat} {F : List MD} {SB : List SE} {es ec : List (Int × Value)} {A : Option Addr} {c : Nat} {S : Nat → Prop} {w0 w w' : World}
theorem AllR.ticked {now' : Int} {O L' : List ME} {v' : Value} {A' : Option Addr} {c' : Nat} (h : AllR a nb now n F SB es ec A c S w0 w) (hT : FTick a.gr a.gr now' n F S w O L' v' A' c' w') :
    AllR a nb now' n (F.filter (sinceP now')) SB es ec A c (RBlk a.gr v' L') w0 w' :=
  ⟨h.mem.keeps hT.keeps (fun b hb hs => h.off b hs hb), hT.roadF, fun b hb => h.off b (hT.blks b hb), fun b hb => ⟨(h.slt b (hT.blks b hb)).1, by have := (h.slt b (hT.blks b hb)).2; have := hT.keeps.size; omega⟩, Keeps.below h.below hT.keeps h.below.size (fun b hb => (h.slt b hb).1), h.base⟩
end
/-- How far what came has been counted. -/
structure CameJ (ec ec' : List (Int × Value)) (O : List ME) (F' : List MD) (n j : Nat) : Prop where
  len : ec'.length = ec.length + j
  rest : ∀ q ∈ F', lk ec' q.number = none
  more : ∀ i q, j ≤ i → O[i]? = some q → lk ec' q.1.number = none
  hi : ∀ p ∈ ec', p.1 < n
theorem CameJ.next {ec ec' : List (Int × Value)} {O : List ME} {F' : List MD} {n j : Nat} {q : ME} {v : Value} (h : CameJ ec ec' O F' n j) (hq : O[j]? = some q) (hO : NumF (O.map Prod.fst)) (hF : ∀ p ∈ F', p.number ≠ q.1.number) (hn : q.1.number < n) :
    CameJ ec (ec' ++ [(q.1.number, v)]) O F' n (j + 1) := by
  have hO' := List.pairwise_iff_getElem.1 ((nums_map (L := O)).2 hO)
  refine ⟨by have := h.len; simp; omega, fun p hp => ?_, fun i p hi hp => ?_, fun p hp => ?_⟩
  · rw [lk_snoc_ne _ _ _ _ (fun e => hF p hp e.symm)]
    exact h.rest p hp
  · have h1 := getElem?_lt hq
    have h2 := getElem?_lt hp
    have := hO' j i h1 h2 (by omega)
    rw [List.getElem?_eq_getElem h1] at hq
    rw [List.getElem?_eq_getElem h2] at hp
    rw [Option.some.inj hq, Option.some.inj hp] at this
    rw [lk_snoc_ne _ _ _ _ this]
    exact h.more i p (by omega) (by rw [List.getElem?_eq_getElem h2, Option.some.inj hp])
  · rcases List.mem_append.1 hp with hp | hp
    · exact h.hi p hp
    · rw [List.mem_singleton.1 hp]; exact hn
theorem filter_len (F : List MD) (z : Int) : F.length = (F.filter (dueP z)).length + (F.filter (sinceP z)).length := by
  induction F with
  | nil => rfl
  | cons x F ih =>
    rw [List.filter_cons, List.filter_cons, List.length_cons, ih]
    cases hx : dueP z x
    · have : sinceP z x = true := by simp only [sinceP, hx]; rfl
      rw [this]
      simp only [Bool.false_eq_true, if_false, if_true, List.length_cons]
      omega
    · have : sinceP z x = false := by simp only [sinceP, hx]; rfl
      rw [this]
      simp only [Bool.false_eq_true, if_false, if_true, List.length_cons]
      omega
theorem numF_inj {F : List MD} (h : NumF F) {p q : MD} (hp : p ∈ F) (hq : q ∈ F) (e : p.number = q.number) : p = q := by
  obtain ⟨i, hi, rfl⟩ := List.getElem_of_mem hp
  obtain ⟨j, hj, rfl⟩ := List.getElem_of_mem hq
  have h' := List.pairwise_iff_getElem.1 h
  rcases Nat.lt_trichotomy i j with x | x | x
  · exact absurd e (h' i j hi hj x)
  · subst x; rfl
  · exact absurd e.symm (h' j i hj hi x)
/-- What is known of one that came. -/
theorem came_facts {now : Int} {n j : Nat} {F : List MD} {SB : List SE} {es ec : List (Int × Value)} {O : List ME} {q : ME} (h : AData now n F SB es ec) (hO : O.map Prod.fst = F.filter (dueP (now + 1))) (hq : O[j]? = some q) :
    ∃ (k : Nat) (dn : Bool) (bs : List Int) (B : Option Addr) (cb : Nat) (eA : Option Addr) (eC : Nat), q = (⟨now + 1, k, k, dn, bs⟩, B, cb) ∧ k < n ∧ lk es k = some (.int .i64 (now + 1)) ∧ SB[k]? = some (bs, eA, eC) ∧ bs.length ≤ 542 ∧ (∀ p ∈ F.filter (sinceP (now + 1)), p.number ≠ k) ∧ NumF (O.map Prod.fst) := by
  have hm : q.1 ∈ F.filter (dueP (now + 1)) := by rw [← hO]; exact List.mem_map.2 ⟨q, List.mem_of_getElem? hq, rfl⟩
  obtain ⟨hF, hdue⟩ := List.mem_filter.1 hm
  have hd1 := h.inv.due q.1 hF
  simp [dueP] at hdue
  have hd : q.1.due = now + 1 := by omega
  have hnum := h.inv.num q.1 hF
  obtain ⟨k, hk⟩ : ∃ k : Nat, q.1.number = k := ⟨q.1.number.toNat, by omega⟩
  have ha := h.adr q.1 hF
  obtain ⟨⟨eb, eA, eC⟩, he, heb⟩ := h.byt q.1 hF
  have hsm := h.inv.small q.1 hF
  have hdu := h.due q.1 hF
  have hne : ∀ p ∈ F.filter (sinceP (now + 1)), p.number ≠ q.1.number := fun p hp e => by
    obtain ⟨hpF, hps⟩ := List.mem_filter.1 hp
    have := numF_inj h.inv.nums hpF hF e
    rw [this] at hps
    simp [sinceP, dueP] at hps
    omega
  obtain ⟨⟨d, m, ad, dn, bs⟩, B, cb⟩ := q
  simp only at hd hk ha heb he hsm hdu hne hnum
  subst hk hd
  subst ha heb
  refine ⟨k, dn, eb, B, cb, eA, eC, rfl, by omega, hdu, by simpa using he, hsm, hne, by rw [hO]; exact List.Pairwise.sublist List.filter_sublist h.inv.nums⟩
/-- What the closure leaves. -/
def TickedA (a : AAdr) (now : Int) (n : Nat) (F : List MD) (SB : List SE) (es : List (Int × Value)) (A : Option Addr) (c : Nat) (S0 : Nat → Prop) (w0 w w' : World) : Prop :=
  ∃ ec S, AllR a now now n (F.filter (sinceP now)) SB es ec A c S w0 w' ∧ AData now n (F.filter (sinceP now)) SB es ec ∧ (∀ b, S b → S0 b) ∧ Keeps (fun b => S0 b ∨ LBlk a SB A c b) w w'
theorem AData.ticked {now : Int} {n : Nat} {F : List MD} {SB : List SE} {es ec ec' : List (Int × Value)} {O : List ME} (h : AData now n F SB es ec) (hn : now < 999999) (hO : O.map Prod.fst = F.filter (dueP (now + 1))) (hc : CameJ ec ec' O (F.filter (sinceP (now + 1))) n O.length) :
    AData (now + 1) n (F.filter (sinceP (now + 1))) SB es ec' := by
  have sub : ∀ q ∈ F.filter (sinceP (now + 1)), q ∈ F := fun q hq => (List.mem_filter.1 hq).1
  refine ⟨h.inv.tick hn, fun q hq => h.adr q (sub q hq), fun q hq => h.due q (sub q hq), hc.rest, fun q hq => h.byt q (sub q hq), ?_, ⟨h.hi.1, hc.hi⟩, h.len⟩
  have h1 := hc.len
  have h2 := h.cnt
  have h3 : O.length = (F.filter (dueP (now + 1))).length := by rw [← hO]; simp
  have h4 := filter_len F (now + 1)
  omega
theorem zero_int (w : World) : (zeroValue 3).run Try.prog w = .ok (.int .i64 0) w := by kernel_rfl
set_option maxHeartbeats 4000000 in
set_option maxRecDepth 100000 in
theorem tickc_any (a : AAdr) (now : Int) (n : Nat) (F : List MD) (SB : List SE) (es ec : List (Int × Value)) (A : Option Addr) (c : Nat) (S : Nat → Prop) (w0 w : World) (h : AllR a now now n F SB es ec A c S w0 w) (hD : AData now n F SB es ec) (hn : now < 10000) :
    Calls Try.prog 9 #[.pointer (some ⟨a.bn, 0, none⟩), .pointer (some ⟨a.br, 0, none⟩), .pointer (some ⟨a.bs, 0, none⟩), .pointer (some ⟨a.bd, 0, none⟩), .pointer (some ⟨a.bc, 0, none⟩)] w fun e w' => e = .returned (.bool true) ∧ TickedA a (now + 1) n F SB es A c S w0 w w' := by
  have hp := hD.inv.pos
  have p0 := hp.1
  have c0 : w.cell? ⟨a.bn, 0, none⟩ = some (.int .i64 now) := h.mem.xn.cell 0
  have f0 : w.frozen? ⟨a.bn, 0, none⟩ = false := h.mem.xn.frozen 0
  have h1 := h.setN (now + 1)
  have c1 : (w.setCell ⟨a.bn, 0, none⟩ (.int .i64 (now + 1))).cell? ⟨a.br, 0, none⟩ = some (.pointer (some ⟨a.gr, 0, none⟩)) := h1.mem.xr.cell 0
  have HT := Lib.hid (Ftick a.gr a.gr now n F S _ h1.road hD.inv)
  have H1 := Lib.hid h1
  have HD := Lib.hid hD
  clear h h1 hD hp
  go_enter Try.func9, Try.ntmps9
  go_wp2_with (go_at_call 10; refine HT.out.mono ?_; rintro e w1 ⟨O, L', v', Ao, co, rfl, hT⟩; have HTT := Lib.hid hT; have HR := Lib.hid (H1.out.ticked hT); have HK1 := Lib.hid (((Keeps.refl (fun b => S b ∨ LBlk a SB A c b) w).setCell (p := ⟨a.bn, 0, none⟩) (.inl (.inr (.inr (.inl rfl)))) (.int .i64 (now + 1))).trans hT.keeps (fun b hb _ => .inl hb)); clear hT)
  have HOL := Lib.hid (show O.length ≤ 4096 by
    have h1 : O.length = (F.filter (dueP (now + 1))).length := by rw [← HTT.out.came]; simp
    have h2 := List.length_filter_le (dueP (now + 1)) F
    have h3 := HD.out.inv.len
    omega)
  have hOl := HOL.out
  clear c0 f0 c1 HT
  go_loopw [14] (fun i wr => ∃ (j : Nat) (ec' : List (Int × Value)), j ≤ O.length ∧ i = .int .i64 j ∧ AllR a (now + 1) (now + 1) n (F.filter (sinceP (now + 1))) SB es ec' A c (RBlk a.gr v' L') w0 wr ∧ GRead wr Ao O ∧ CameJ ec ec' O (F.filter (sinceP (now + 1))) n j ∧ Keeps (fun b => S b ∨ LBlk a SB A c b) w wr) (fun i _ => O.length - (intOf i).toNat)
  case atStart => exact ⟨0, ec, Nat.zero_le _, rfl, HR.out, HTT.out.read, ⟨rfl, fun q hq => HD.out.new q (List.mem_filter.1 hq).1, fun i q _ hq => HD.out.new q.1 (by
    have : q.1 ∈ O.map Prod.fst := List.mem_map.2 ⟨q, List.mem_of_getElem? hq, rfl⟩
    rw [HTT.out.came] at this
    exact (List.mem_filter.1 this).1), HD.out.hi.2⟩, HK1.out⟩
  case round =>
    obtain ⟨j, ec', hj, rfl, hR, hG, hC, hK⟩ := hrel
    have HKJ := Lib.hid hK
    clear hK
    have HRJ := Lib.hid hR
    have HGJ := Lib.hid hG
    have HCJ := Lib.hid hC
    clear hR hG hC
    by_cases hlt : j < O.length
    · obtain ⟨q, hq⟩ : ∃ q, O[j]? = some q := ⟨_, List.getElem?_eq_getElem hlt⟩
      obtain ⟨k, dn, bs, B, cb, eA, eC, rfl, hkn, hdu, hse, hbl, hne, hnO⟩ := came_facts HD.out HTT.out.came hq
      obtain ⟨x1, y1, rfl, g0, g1, g2⟩ := HGJ.out.cells hq
      have hksl : k < SB.length := getElem?_lt hse
      have hlc : lk ec' (k : Int) = none := HCJ.out.more j _ (Nat.le_refl _) hq
      have hCN := HCJ.out.next (v := .int .i64 1) hq hnO hne (by simp only; omega)
      have hbA := HGJ.out.bytes _ (List.mem_of_getElem? hq)
      have hm := HRJ.out.mem
      -- the cells that the test reads, behind the box
      have b0 : wr.cell? ⟨a.bs, 0, none⟩ = some (.slice A SB.length c) := hm.xs.cell 0
      have b1 : wr.cell? ⟨a.bd, 0, none⟩ = some (.map (some a.md)) := hm.xd.cell 0
      have b2 : wr.cell? ⟨a.bc, 0, none⟩ = some (.map (some a.mc)) := hm.xc.cell 0
      have b3 : wr.cell? ⟨a.bn, 0, none⟩ = some (.int .i64 (now + 1)) := hm.xn.cell 0
      obtain ⟨gA, cA, hvA, _, _⟩ := OwnR.some_ hm.row (by omega)
      injection hvA with e1 _ e2
      subst e1 e2
      have b4 : wr.cell? ⟨gA, k, none⟩ = some (.slice eA bs.length eC) := OwnR.cell hm.row k _ (by rw [List.getElem?_map, hse]; rfl)
      have heB : ReadI wr .u8 eA bs := OwnI.read (hm.bytes _ (List.mem_of_getElem? hse))
      have l0 := hm.xs.lt
      have l1 := hm.xd.lt
      have l2 := hm.xc.lt
      have l3 := hm.xn.lt
      have l4 := World.block_lt_of_cell? wr _ b4
      have l5 := World.block_lt_of_cell? wr _ g0
      simp only at l4 l5
      have hz0 := zero_int
      have hD0 : ∀ m : Nat, (Instr.lookup 26 (.map (some a.md)) (.int .i64 k) false).run Try.prog ((wr.alloc (.cells #[.int .i64 k, .bool dn, .slice B bs.length cb] 32)).drewN m) = .ok (.int .i64 (now + 1)) ((wr.alloc (.cells #[.int .i64 k, .bool dn, .slice B bs.length cb] 32)).drewN m) := fun m => by
        have := (hm.md.under (below_drewN (below_alloc (Below.refl wr.heap.size wr) (.cells #[.int .i64 k, .bool dn, .slice B bs.length cb] 32)) m)).look (P := Try.prog) Try.underlying26 Try.underlying3 (hz0 _) k false
        rw [hdu] at this
        exact this
      have hC0 : ∀ m : Nat, (Instr.lookup 26 (.map (some a.mc)) (.int .i64 k) false).run Try.prog ((wr.alloc (.cells #[.int .i64 k, .bool dn, .slice B bs.length cb] 32)).drewN m) = .ok (.int .i64 0) ((wr.alloc (.cells #[.int .i64 k, .bool dn, .slice B bs.length cb] 32)).drewN m) := fun m => by
        have := (hm.mc.under (below_drewN (below_alloc (Below.refl wr.heap.size wr) (.cells #[.int .i64 k, .bool dn, .slice B bs.length cb] 32)) m)).look (P := Try.prog) Try.underlying26 Try.underlying3 (hz0 _) k false
        rw [hlc] at this
        exact this
      have hS0 := fun m => sameB_any B eA cb eC bs bs ((wr.alloc (.cells #[.int .i64 k, .bool dn, .slice B bs.length cb] 32)).drewN m) (hbA.under (below_drewN (below_alloc (Below.refl _ _) _) _)) (heB.under (below_drewN (below_alloc (Below.refl _ _) _) _)) (by omega) (by omega)
      have e0 : decide (bs = bs) = true := by simp
      rw [e0] at hS0
      have HS0 := Lib.hid hS0
      have t1 : decide ((SB.length : Int) ≤ (k : Int)) = false := decide_eq_false (by omega)
      have t2 : ((now + 1 : Int) != now + 1) = false := by simp
      have t3 : decide ((0 : Int) < 0) = false := by decide
      have HLC := Lib.hid hlc
      have HCN := Lib.hid hCN
      clear hq hse hdu hbA heB hm hS0 e0 hne hnO hlc hCN
      go_upto_region 6 with (fail)
      go_quiet ((go_at_call 11; exact Calls.quiet_of (HS0.out _)))
      have HMC := Lib.hid (HRJ.out.mem.mc.under (below_drewN (below_alloc (Below.refl wr.heap.size wr) (.cells #[.int .i64 k, .bool dn, .slice B bs.length cb] 32)) nq))
      go_wp2_with (refine wpList_store_map _ rfl (.tmp 47) (.tmp 48) (.tmp 50) 26 3 3 rfl Try.underlying26 a.mc .i64 Try.underlying3 ec' (k : Int) (.int .i64 1) (by rfl) (by rfl) (by rfl) HMC.out HLC.out ?_; intro w6 hM6 hg6; have H6 := Lib.hid (And.intro hM6 hg6); clear hM6 hg6)
      have hb6 := below_drewN (below_alloc (Below.refl wr.heap.size wr) (.cells #[.int .i64 k, .bool dn, .slice B bs.length cb] 32)) nq
      have kC : Keeps (fun b => b = a.mc) ((wr.alloc (.cells #[.int .i64 k, .bool dn, .slice B bs.length cb] 32)).drewN nq) w6 := Keeps.grown H6.out.2 (fun g h => by injection h with h; exact h.symm)
      have hmc := H1.out.mem.mc.lt
      have R6 := Lib.hid ((HRJ.out.under hb6).putC H6.out.1 H6.out.2)
      have G6 := Lib.hid ((HGJ.out.under hb6).keeps kC (fun b o e hb => by injection e with e; injection e with e; have := (OwnR.blocks HTT.out.row x1 rfl).1; omega) (fun q hq b hb e => H1.out.off b (HTT.out.gblk q hq b hb) (.inr (.inr (.inr (.inr (.inr (.inl e))))))))
      have K6 := Lib.hid ((HKJ.out.trans (Keeps.under hb6 (fun _ => False)) (fun _ h _ => h.elim)).trans kC (fun b hb _ => .inr (.inr (.inr (.inr (.inr (.inr (.inl hb))))))))
      have hOl := HOL.out
      clear hb6 kC hD0 hC0
      go_roundw
      case rel => exact ⟨j + 1, _, by omega, by go_num, R6.out, G6.out, HCN.out, K6.out⟩
      case measure => simp [intOf]; omega
    · obtain rfl : j = O.length := by omega
      have HX := Lib.hid (show TickedA a (now + 1) n F SB es A c S w0 w wr from ⟨ec', _, HRJ.out, HD.out.ticked (by omega) HTT.out.came HCJ.out, HTT.out.blks, HKJ.out⟩)
      go_wp2_with fail
      go_ret
      exact ⟨rfl, HX.out⟩
end Go.Proofs.Ytkodmoeohffjhaa
