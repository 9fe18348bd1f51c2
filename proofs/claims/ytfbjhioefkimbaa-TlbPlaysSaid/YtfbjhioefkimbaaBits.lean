/- Plain facts on 64-bit words as whole numbers: masks, disjoint or, single bits, fields. No program in sight. -/
import Derived.Laws.BitsLemmas
import Derived.Test.YtfbjhioefkimbaaWMore
import Derived.Test.YtfbjhioefkimbaaWNEv
namespace Go.Proofs.Ytfbjhioefkimbaa.Bits
open Go.RowKit Go.Proofs.YtfbjhioefkimbaaW.PrintWords Go.Proofs.YtfbjhioefkimbaaW.PrintLast Go.Proofs.YtfbjhioefkimbaaW.PrintMore
set_option linter.unusedVariables false
set_option linter.unusedSimpArgs false

/-- one round: what follows is told with one round more -/
theorem wf_i64 {n : Int} : (Lit.int .i64 n).wf = true ↔ -9223372036854775808 ≤ n ∧ n ≤ 9223372036854775807 := by
  have h0 : IntKind.i64.min = -9223372036854775808 := by decide
  have h1 : IntKind.i64.max = 9223372036854775807 := by decide
  rw [Lit.wf, h0, h1]
  simp only [Bool.and_eq_true, decide_eq_true_eq]

theorem wrap64_of {n : Int} (h0 : -9223372036854775808 ≤ n) (h1 : n ≤ 9223372036854775807) : wrap64 n = n := by unfold wrap64; omega

end Go.Proofs.Ytfbjhioefkimbaa.Bits
