/- Members compared. Own work. -/
import Derived.Test.YthppeaelfcmafaaTy
namespace Go.Proofs.Ythppeaelfcmafaa
open Go.RowKit
set_option linter.unusedVariables false
theorem eqMb_run (m n : Mb) (w : World) : (Op.equal 45 (.agg m.cells.toArray) (.agg n.cells.toArray)).run Try.prog w = .ok (decide (m = n)) w := by
  have h : (Op.equalIn (9999 + 1) 45 (.agg #[.int .i64 m.n, .int .i64 m.b, .bool m.f]) (.agg #[.int .i64 n.n, .int .i64 n.b, .bool n.f])).run Try.prog w = .ok (decide (m = n)) w := by
    go_simp
    obtain ⟨a, b, f⟩ := m
    obtain ⟨a', b', f'⟩ := n
    by_cases h1 : a = a' <;> by_cases h2 : b = b' <;> by_cases h3 : f = f' <;> simp [h1, h2, h3]
  exact h
theorem eqMb_guard (o : BinOp) (x y : Operand) (m n : Mb) (w : World) : (eqGuard o 45 x y (.agg m.cells.toArray) (.agg n.cells.toArray)).run Try.prog w = .ok () w := by
  have h : Try.prog.eqGuardType Try.prog.depth 45 = false := by kernel_rfl
  cases o <;> simp [eqGuard, program, Sem.run, h]
theorem eqMb_eql (m n : Mb) (w : World) : (binOp .eql 45 (.agg m.cells.toArray) (.agg n.cells.toArray)).run Try.prog w = .ok (.bool (decide (m = n))) w := by
  simp only [binOp, Sem.run_bind, eqMb_run, Result.andThen_ok, Sem.run_pure]
theorem eqMb_neq (m n : Mb) (w : World) : (binOp .neq 45 (.agg m.cells.toArray) (.agg n.cells.toArray)).run Try.prog w = .ok (.bool (!decide (m = n))) w := by
  simp only [binOp, Sem.run_bind, eqMb_run, Result.andThen_ok, Sem.run_pure]
end Go.Proofs.Ythppeaelfcmafaa
