/- What methods with a value receiver come to; heap.up walked. -/
import Derived.Test.YtkodmoeohffjhaaRoPush
namespace Go.Proofs.Ytkodmoeohffjhaa
open Go.RowKit
set_option linter.unusedVariables false
set_option linter.unusedSimpArgs false

theorem run_loadMails {w : World} {a : Addr} {v : Value} (h : w.cell? a = some v) : (loadVar 67 a).run Try.prog w = .ok v w := by
  simp [loadVar, isAgg, underlying, Try.underlying67, h, Result.andThen]
set_option maxRecDepth 100000 in
theorem meth_less0 (a : Addr) (w : World) : (method 237 74 (.pointer (some a)) "Less").run Try.prog w = ((do let v ← loadVar 67 a; pure (81, v) : Sem (FuncId × Value))).run Try.prog w := by kernel_rfl
set_option maxRecDepth 100000 in
theorem meth_swap0 (a : Addr) (w : World) : (method 237 74 (.pointer (some a)) "Swap").run Try.prog w = ((do let v ← loadVar 67 a; pure (82, v) : Sem (FuncId × Value))).run Try.prog w := by kernel_rfl
theorem meth_less {w : World} {a : Addr} {v : Value} (h : w.cell? a = some v) : (method 237 74 (.pointer (some a)) "Less").run Try.prog w = .ok (81, v) w := by
  rw [meth_less0]; simp [Sem.run_bind, run_loadMails h, Result.andThen]
theorem meth_swap {w : World} {a : Addr} {v : Value} (h : w.cell? a = some v) : (method 237 74 (.pointer (some a)) "Swap").run Try.prog w = .ok (82, v) w := by
  rw [meth_swap0]; simp [Sem.run_bind, run_loadMails h, Result.andThen]
theorem meth_len' {w : World} {a : Addr} {v : Value} (h : w.cell? a = some v) : (method 237 74 (.pointer (some a)) "Len").run Try.prog w = .ok (80, v) w := by
  rw [meth_len]; simp [Sem.run_bind, run_loadMails h, Result.andThen]
end Go.Proofs.Ytkodmoeohffjhaa
