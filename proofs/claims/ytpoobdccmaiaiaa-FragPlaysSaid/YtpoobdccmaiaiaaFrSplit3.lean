/- frag.Split, of any bytes that fit. -/
import Derived.Test.YtpoobdccmaiaiaaFrSplit2
namespace Go.Proofs.Ytpoobdccmaiaiaa
open Go.RowKit
open Frag
set_option linter.unusedVariables false
set_option linter.unusedSimpArgs false

theorem split_any (id : Int) (A : Option Addr) (n c : Nat) (b : List Int) (w : World) (hn : n = b.length) (hcap : n ≤ c) (hx : ReadI w .u8 A b) (hl : b.length ≤ 57344) :
    Calls Try.prog 9 #[.int .u32 id, .slice A n c] w fun e w' => ∃ A' c' L, e = .returned (.tuple #[.slice A' L.length c', .int .i64 0]) ∧ L.map (·.1) = Frag.parts id b (Frag.count b) (Frag.count b) ∧ Parts w' w.heap.size (.slice A' L.length c') L ∧ Below w.heap.size w w' := by
  by_cases h : b = []
  · subst h hn
    exact split_none id A c w
  · exact split_fits id A n c b w hn hcap hx hl h
end Go.Proofs.Ytpoobdccmaiaiaa
