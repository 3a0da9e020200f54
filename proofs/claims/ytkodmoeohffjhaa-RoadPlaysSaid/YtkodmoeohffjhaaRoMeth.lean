/- What a method called through heap.Interface on *mails comes to. -/
import Derived.Test.YtkodmoeohffjhaaRoMem
namespace Go.Proofs.Ytkodmoeohffjhaa
open Go.RowKit
set_option linter.unusedVariables false
set_option linter.unusedSimpArgs false
set_option maxRecDepth 100000

theorem meth_push (a : Addr) (w : World) : (method 237 74 (.pointer (some a)) "Push").run Try.prog w = .ok (84, .pointer (some a)) w := by kernel_rfl
theorem meth_pop (a : Addr) (w : World) : (method 237 74 (.pointer (some a)) "Pop").run Try.prog w = .ok (83, .pointer (some a)) w := by kernel_rfl
theorem meth_len (a : Addr) (w : World) : (method 237 74 (.pointer (some a)) "Len").run Try.prog w = ((do let v ← loadVar 67 a; pure (80, v) : Sem (FuncId × Value))).run Try.prog w := by kernel_rfl
end Go.Proofs.Ytkodmoeohffjhaa
