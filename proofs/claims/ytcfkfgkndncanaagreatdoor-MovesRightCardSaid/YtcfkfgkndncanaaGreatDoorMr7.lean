/- Texts of this claim, merged by a program of this claim: ECond. -/
import Derived.Test.YtcfkfgkndncanaaGreatDoorMr5
namespace Go.Proofs.YtcfkfgkndncanaaGreatDoor
set_option linter.unusedVariables false
set_option linter.unusedSimpArgs false
section
open Go.RowKit
open Classical in
noncomputable def iteV (c : Prop) (a b : Option (Prop × VOut)) : Option (Prop × VOut) := if c then a else b
open Classical in
noncomputable def conI (c : List CV → KH → Prop) (a b : Con) : Con := fun ARGS H => if c ARGS H then a ARGS H else b ARGS H
theorem callW_I (c : List CV → KH → Prop) (a b : Con) (args : List CV) (h : KH) : callW (some (conI c a b)) args h = iteV (c args h) (callW (some a) args h) (callW (some b) args h) := by
  unfold conI iteV
  by_cases q : c args h
  · simp only [callW, if_pos q]
  · simp only [callW, if_neg q]
theorem jqx (c : Prop) (a b : Option (Prop × VOut)) (N K : CV → KH → Prop) : outK (iteV c a b) N K = ((c → outK a N K) ∧ (¬c → outK b N K)) := by
  unfold iteV
  by_cases q : c
  · rw [if_pos q]
    exact propext ⟨fun h => ⟨fun _ => h, fun n => absurd q n⟩, fun h => h.1 q⟩
  · rw [if_neg q]
    exact propext ⟨fun h => ⟨fun n => absurd n q, fun _ => h⟩, fun h => h.2 q⟩
def jlL (P : Program) (E : Nat → Option (List CV)) (F : FuncId) (c : List CV → KH → Prop) (a : Con) : Prop := ∀ args h G r h', c args h → a args h = some (G, r, h') → G → TFx P E F args h r h'
theorem conI_sound {P : Program} {E : Nat → Option (List CV)} {F : FuncId} {c : List CV → KH → Prop} {a b : Con} (ha : jlL P E F c a) (hb : jlL P E F (fun x y => ¬c x y) b) : jel P E F (conI c a b) := fun args h G r h' e hG => by
  unfold conI at e
  split at e
  · rename_i q
    exact ha _ _ _ _ _ q e hG
  · rename_i q
    exact hb _ _ _ _ _ q e hG
open Classical in
noncomputable def iteC (c : Prop) (a b : Option (Prop × Res × KH)) : Option (Prop × Res × KH) := if c then a else b
theorem conI_C (c : List CV → KH → Prop) (a b : Con) (args : List CV) (h : KH) : conI c a b args h = iteC (c args h) (a args h) (b args h) := rfl
def callO (o : Option (Prop × Res × KH)) (h : KH) : Option (Prop × VOut) :=
  match o with
  | some (G, .ret r, h') => some (G ∧ h.length ≤ h'.length, .val r h')
  | some (G, .pan r, h') => some (G ∧ h.length ≤ h'.length, .pan r h')
  | none => none
theorem callW_O (c : Con) (args : List CV) (h : KH) : callW (some c) args h = callO (c args h) h := rfl
theorem callO_C (c : Prop) (a b : Option (Prop × Res × KH)) (h : KH) : callO (iteC c a b) h = iteV c (callO a h) (callO b h) := by
  unfold iteC iteV
  by_cases q : c
  · rw [if_pos q, if_pos q]
  · rw [if_neg q, if_neg q]
theorem callO_r (G : Prop) (r : CV) (h' h : KH) : callO (some (G, .ret r, h')) h = some (G ∧ h.length ≤ h'.length, .val r h') := rfl
theorem callO_p (G : Prop) (r : CV) (h' h : KH) : callO (some (G, .pan r, h')) h = some (G ∧ h.length ≤ h'.length, .pan r h') := rfl
abbrev ESpec := List CV → KH → Int
def errV (e : Int) : CV := .iface 31 (.int .i64 e)
def je6 : Nat → KH
  | 0 => []
  | n + 1 => .dead :: je6 n
def jnF (msp : MSpec) (esp : ESpec) : MSpec := fun args h => match msp args h with
  | some (G, _, _) => some (G, .pan (errV (esp args h)), je6 h.length)
  | none => none
def rhoM (ARGS : List CV) (H : KH) : List Nat := close H 3 (once [] (jcd ARGS))
def errM (esp : ESpec) (ARGS : List CV) (H : KH) (ρ : List Nat) : Int := esp (locL ρ ARGS) (locH ρ H ρ)
def okM (esp : ESpec) (ARGS : List CV) (H : KH) : Prop := errM esp ARGS H (rhoM ARGS H) = 0
noncomputable def conP (msp : MSpec) (esp : ESpec) : Con := conI (okM esp) (conM msp) (conM (jnF msp esp))
def MutP (P : Program) (E : Nat → Option (List CV)) (F : FuncId) (msp : MSpec) (esp : ESpec) : Prop := ∀ args h G r h', msp args h = some (G, r, h') → G → (esp args h = 0 → TF P E F args h r h') ∧ (esp args h ≠ 0 → TF P E F args h (.pan (errV (esp args h))) (je6 h.length))
theorem joB {P : Program} {E : Nat → Option (List CV)} {F : FuncId} {spec : MSpec} {ARGS : List CV} {H : KH} {ρ : List Nat} {G : Prop} {r : Res} {H' : KH} (hc : goM spec ARGS H ρ = some (G, r, H')) (hG : G) (t : ∀ G1 r1 h1, spec (locL ρ ARGS) (locH ρ H ρ) = some (G1, r1, h1) → G1 → TF P E F (locL ρ ARGS) (locH ρ H ρ) r1 h1) : TFx P E F ARGS H r H' := by
  simp only [goM] at hc
  split at hc
  · rename_i G1 r1 h1 e
    cases hc
    obtain ⟨hG1, hk, hl⟩ := hG
    simp only [Bool.and_eq_true] at hk
    obtain ⟨⟨k1, k2⟩, k3⟩ := hk
    have tf := t _ _ _ e hG1
    have hln := jhA ρ H ρ
    have := TF.lift (ρ := ρ) (fz := []) (H := H) (ARGS := ARGS) tf k1 (by rw [List.append_nil, ← jf6]; exact k2) (jf7 _ _ k3) (jhz ρ H ρ k3) (jds ρ H ARGS) (.inl rfl) (by rw [hln]; exact hl)
    rw [hln] at this
    exact this
  · cases hc
theorem MutP.soundP {P : Program} {E : Nat → Option (List CV)} {F : FuncId} {msp : MSpec} {esp : ESpec} (t : MutP P E F msp esp) : jel P E F (conP msp esp) := by
  refine conI_sound (fun ARGS H G r H' hc e hG => ?_) (fun ARGS H G r H' hc e hG => ?_)
  · exact joB e hG (fun G1 r1 h1 e1 g1 => (t _ _ _ _ _ e1 g1).1 hc)
  · refine joB e hG (fun G1 r1 h1 e1 g1 => ?_)
    unfold jnF at e1
    split at e1
    · rename_i e2
      cases e1
      exact (t _ _ _ _ _ e2 g1).2 hc
    · cases e1
open Classical in
noncomputable def jfy {α : Type} (enc : α → List CV × KH) (f : α → Int) : ESpec := fun args h => if e : ∃ x, enc x = (args, h) then f (Classical.choose e) else 0
theorem jb9 {α : Type} {enc : α → List CV × KH} (f : α → Int) (inj : ∀ x y, enc x = enc y → x = y) (x : α) : jfy enc f (enc x).1 (enc x).2 = f x := by
  unfold jfy
  have h : ∃ y, enc y = ((enc x).1, (enc x).2) := ⟨x, rfl⟩
  rw [dif_pos h, inj _ _ (Classical.choose_spec h)]
def resP (e : Int) (r : Res) : Res := if e = 0 then r else .pan (errV e)
def memP (e : Int) (h' : KH) (n : Nat) : KH := if e = 0 then h' else je6 n
theorem jbB {e : Int} (h : e = 0) (r : Res) : resP e r = r := if_pos h
theorem jaK {e : Int} (h : ¬e = 0) (r : Res) : resP e r = .pan (errV e) := if_neg h
theorem jbC {e : Int} (h : e = 0) (m : KH) (n : Nat) : memP e m n = m := if_pos h
theorem jaL {e : Int} (h : ¬e = 0) (m : KH) (n : Nat) : memP e m n = je6 n := if_neg h
theorem MutP.of {P : Program} {E : Nat → Option (List CV)} {F : FuncId} {α : Type} {enc : α → List CV × KH} {f : α → Prop × Res × KH} {g : α → Int} (inj : ∀ x y, enc x = enc y → x = y) (t : ∀ x, (f x).1 → TF P E F (enc x).1 (enc x).2 (resP (g x) (f x).2.1) (memP (g x) (f x).2.2 (enc x).2.length)) : MutP P E F (jbV enc f) (jfy enc g) := fun args h G r h' e hG => by
  unfold jbV at e
  split at e
  · rename_i q
    have hx := Classical.choose_spec q
    generalize Classical.choose q = x at e hx
    have e := Option.some.inj e
    have := t x (by rw [e]; exact hG)
    have he := jb9 g inj x
    rw [e, hx] at this
    rw [hx] at he
    simp only at he this
    rw [he]
    refine ⟨fun h0 => ?_, fun h0 => ?_⟩
    · rw [jbB h0, jbC h0] at this
      exact this
    · rw [jaK h0, jaL h0] at this
      exact this
  · cases e
abbrev QSpec := List CV → Int
def okA (ks : List AK) (esp : QSpec) (ARGS : List CV) (H : KH) : Prop := match purL H ks ARGS with
  | some (_, args, _) => esp args = 0
  | none => True
noncomputable def conQ (ks : List AK) (sp sp2 : Spec) (esp : QSpec) : Con := conI (okA ks esp) (conA ks sp) (conA ks sp2)
def AliasQ (P : Program) (E : Nat → Option (List CV)) (F : FuncId) (sp sp2 : Spec) (esp : QSpec) : Prop := (∀ args G r, sp args = some (G, r) → G → esp args = 0 → TF P E F args [] r []) ∧ (∀ args G r, sp2 args = some (G, r) → G → esp args ≠ 0 → TF P E F args [] r [])
open Classical in
noncomputable def jpj {α : Type} (enc : α → List CV) (f : α → Int) : QSpec := fun args => if e : ∃ x, enc x = args then f (Classical.choose e) else 0
theorem jjS {α : Type} {enc : α → List CV} (f : α → Int) (inj : ∀ x y, enc x = enc y → x = y) (x : α) : jpj enc f (enc x) = f x := by
  unfold jpj
  have h : ∃ y, enc y = enc x := ⟨x, rfl⟩
  rw [dif_pos h, inj _ _ (Classical.choose_spec h)]
def resQ (e : Int) (r r2 : Res) : Res := if e = 0 then r else r2
theorem jpk {e : Int} (h : e = 0) (r r2 : Res) : resQ e r r2 = r := if_pos h
theorem jpl {e : Int} (h : ¬e = 0) (r r2 : Res) : resQ e r r2 = r2 := if_neg h
theorem AliasQ.of {P : Program} {E : Nat → Option (List CV)} {F : FuncId} {α : Type} {enc : α → List CV} {f f2 : α → Prop × Res} {g : α → Int} (inj : ∀ x y, enc x = enc y → x = y) (h1 : ∀ x, (f2 x).1 = (f x).1) (t : ∀ x, (f x).1 → TF P E F (enc x) [] (resQ (g x) (f x).2 (f2 x).2) []) : AliasQ P E F (spOf enc f) (spOf enc f2) (jpj enc g) := by
  refine ⟨fun args G r e hG he => ?_, fun args G r e hG he => ?_⟩
  · obtain ⟨x, rfl, ex⟩ := jdO e
    have := t x (by rw [ex]; exact hG)
    rw [jjS g inj] at he
    rw [jpk he, ex] at this
    exact this
  · obtain ⟨x, rfl, ex⟩ := jdO e
    have := t x (by rw [← h1, ex]; exact hG)
    rw [jjS g inj] at he
    rw [jpl he, ex] at this
    exact this
theorem PBu : (∀ c a b args h, callW (some (conI c a b)) args h = iteV (c args h) (callW (some a) args h) (callW (some b) args h)) ∧ (∀ c a b N K, outK (iteV c a b) N K = ((c → outK a N K) ∧ (¬c → outK b N K))) ∧
    (∀ msp esp, conP msp esp = conI (okM esp) (conM msp) (conM (jnF msp esp))) ∧ (∀ ks sp sp2 esp, conQ ks sp sp2 esp = conI (okA ks esp) (conA ks sp) (conA ks sp2)) ∧
    (∀ esp ARGS H, okM esp ARGS H = (errM esp ARGS H (close H 3 (once [] (jcd ARGS))) = 0)) ∧ (∀ esp ARGS H ρ, errM esp ARGS H ρ = esp (locL ρ ARGS) (locH ρ H ρ)) ∧
    (∀ ks esp ARGS H, okA ks esp ARGS H = match purL H ks ARGS with
      | some (_, args, _) => esp args = 0
      | none => True) ∧ (∀ msp esp args h, jnF msp esp args h = match msp args h with
      | some (G, _, _) => some (G, .pan (errV (esp args h)), je6 h.length)
      | none => none) ∧ (je6 0 = []) ∧ (∀ n, je6 (n + 1) = .dead :: je6 n) ∧ (je6 1 = [.dead]) ∧ (je6 2 = [.dead, .dead]) ∧ (je6 3 = [.dead, .dead, .dead]) ∧ (je6 4 = [.dead, .dead, .dead, .dead]) ∧ (∀ e, jcn (errV e) = []) ∧ (∀ ρ e, locV ρ (errV e) = errV e) ∧ (∀ σ e, renV σ (errV e) = errV e) :=
  ⟨callW_I, jqx, fun _ _ => rfl, fun _ _ _ _ => rfl, fun _ _ _ => rfl, fun _ _ _ _ => rfl, fun _ _ _ _ => rfl, fun _ _ _ _ => rfl, rfl, fun _ => rfl, rfl, rfl, rfl, rfl, fun _ => rfl, fun _ _ => rfl, fun _ _ => rfl⟩
theorem PB : type_of% (And.intro PBu (And.intro conI_C (And.intro callW_O (And.intro callO_C (And.intro callO_r callO_p))))) := And.intro PBu (And.intro conI_C (And.intro callW_O (And.intro callO_C (And.intro callO_r callO_p))))
theorem Cos.err {n0 : Nat} {e : Int} {h : KH} {k : KH} (hk : Cos n0 ⟨[(0, .iface 31 (.int .i64 e))], h⟩ ⟨[(0, .iface 31 (.int .i64 e))], k⟩) : Cos n0 ⟨[(0, .iface 31 (.int .i64 e))], h⟩ ⟨[(0, errV e)], k⟩ := hk
end
end Go.Proofs.YtcfkfgkndncanaaGreatDoor
