/- What the reference's May, Word and Decode (layer 2) compute. -/
import Derived.Test.YtehbhpkmlmeblaaPteLib
namespace Go.Proofs.Ytehbhpkmlmeblaa.PteLib
open Go.RowKit Go.Proofs.YtehbhpkmlmeblaaW.PrintWords Go.Proofs.YtehbhpkmlmeblaaW.PrintLast Go.Proofs.YtehbhpkmlmeblaaW.PrintMore Go.Proofs.Ytehbhpkmlmeblaa.Bits Go.Proofs.Ytehbhpkmlmeblaa.Ref01 Go.Proofs.Ytehbhpkmlmeblaa.Q
set_option linter.unusedVariables false
set_option linter.unusedSimpArgs false

/-! ### the reference's Decode -/
end Go.Proofs.Ytehbhpkmlmeblaa.PteLib
