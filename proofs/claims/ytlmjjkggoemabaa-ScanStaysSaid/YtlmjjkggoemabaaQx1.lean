-- Written by this session's program wip/tools/xprint.py (the kit's printer, turned by it); not the kit's own print.
import Derived.Test.YtlmjjkggoemabaaQx0
namespace Go.Proofs.Ytlmjjkggoemabaa.Q
open Go.RowKit Go.Proofs.YtlmjjkggoemabaaW.PrintWords Go.Proofs.YtlmjjkggoemabaaW.PrintLast Go.Proofs.YtlmjjkggoemabaaW.PrintMore
attribute [local go_sem] max2_int min2_int max_two min_two max_three min_three max_four min_four   -- for this text's walks alone
set_option linter.unusedVariables false
set_option linter.unusedSimpArgs false

theorem eqA35 (d : Nat) (w : World) (x0 y0 : Int) (x1 y1 : Int) :
    (Op.equalIn (d + 2) 35 (.agg #[.int .i64 x0, .int .i64 x1]) (.agg #[.int .i64 y0, .int .i64 y1])).run Try.prog w = .ok (x0 == y0 && (x1 == y1)) w := by
  have h1 : Try.prog.underlying 35 = some (.array 2 3) := Try.underlying35
  have h2 : Try.prog.underlying 3 = some (.int .i64) := Try.underlying3
  have ha : (isAgg 3).run Try.prog w = .ok false w := by rfl
  have hs : ∀ w, (sizeOf 3).run Try.prog w = .ok 1 w := fun w => by rfl
  simp [Op.equalIn, run_underlying h1, run_underlying h2, go_sem, List.range', ha, hs]
  by_cases e0 : x0 = y0 <;> by_cases e1 : x1 = y1 <;> simp [e0, e1, run_underlying h2, ha]
end Go.Proofs.Ytlmjjkggoemabaa.Q
