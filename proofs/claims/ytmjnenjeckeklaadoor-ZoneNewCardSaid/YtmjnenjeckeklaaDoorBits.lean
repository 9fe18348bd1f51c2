/- Plain facts on 64-bit words as whole numbers: masks, disjoint or, single bits, fields. No program in sight. -/
import Derived.Laws.BitsLemmas
import Derived.Test.YtmjnenjeckeklaaDoorWMore
import Derived.Test.YtmjnenjeckeklaaDoorWNEv
namespace Go.Proofs.YtmjnenjeckeklaaDoor.Bits
open Go.RowKit Go.Proofs.YtmjnenjeckeklaaDoorW.PrintWords Go.Proofs.YtmjnenjeckeklaaDoorW.PrintLast Go.Proofs.YtmjnenjeckeklaaDoorW.PrintMore
set_option linter.unusedVariables false
set_option linter.unusedSimpArgs false

/-- one round: what follows is told with one round more -/
theorem wrap64_of {n : Int} (h0 : -9223372036854775808 ≤ n) (h1 : n ≤ 9223372036854775807) : wrap64 n = n := by unfold wrap64; omega

end Go.Proofs.YtmjnenjeckeklaaDoor.Bits
